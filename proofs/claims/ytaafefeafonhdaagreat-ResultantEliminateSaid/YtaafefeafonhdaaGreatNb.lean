/- Nb -/
import Derived.Test.YtaafefeafonhdaaGreatNa
set_option linter.unusedVariables false
set_option maxRecDepth 100000
set_option maxHeartbeats 400000000
set_option linter.unusedSimpArgs false
namespace Go.Proofs.YtaafefeafonhdaaGreat
open Go.RowKit
theorem qpP{U:Nat->Nat}{T i k:Nat}(hU:nv U T<4294967296^k)(hi:k<=i)(hT:i<T):U i=0:=by
 refine gQ λhc=>?_;have h1:=Tt U i hc
 have h2:nv U (i+1)<=nv U T:=by
  obtain⟨r,rfl⟩:∃r,T=i+1+r:=⟨T-(i+1),by omega⟩;have:=xW U (i+1) r;omega
 have h3:4294967296^k<=4294967296^i:=Nat.pow_le_pow_right (by decide) hi;omega
theorem qBa{U:Nat->Nat}{T j m:Nat}(hT:j+m<=T)(hU:nv U T<4294967296^(j+m)):nv U T=nv U j+4294967296^j*nv (λi=>U (j+i)) m:=by
 obtain⟨r,rfl⟩:∃r,T=j+m+r:=⟨T-(j+m),by omega⟩;rw[xW U (j+m) r,ou (λi=>U (j+m+i)) (λ_=>0) r (λi hi=>qpP hU (by omega) (by omega)),OJ,Nat.mul_zero,Nat.add_zero,xW]
theorem qD4(N a b c x:Nat):N+c*x+b*(x*4294967296)+a*(x*4294967296*4294967296)=((a*4294967296+b)*4294967296+c)*x+N:=by
 have e1:b*(x*4294967296)=b*x*4294967296:=(Nat.mul_assoc _ _ _).symm
 have e2:a*(x*4294967296*4294967296)=a*x*4294967296*4294967296:=by rw[<-Nat.mul_assoc, <-Nat.mul_assoc]
 have e3:((a*4294967296+b)*4294967296+c)*x=a*x*4294967296*4294967296+b*x*4294967296+c*x:=by
  rw[Nat.add_mul,Nat.mul_right_comm,Nat.add_mul (a*4294967296),Nat.mul_right_comm a,Nat.add_mul (a*x*4294967296)]
 omega
theorem qBc(p:Nat->Nat)(n:Nat)(hn:2<=n):nv p (n+1)=((p n*4294967296+p (n-1))*4294967296+p (n-2))*4294967296^(n-2)+nv p (n-2):=by
 obtain⟨m,rfl⟩:∃m,n=m+2:=⟨n-2,by omega⟩;rw[rG,rG,rG];show nv p m+p m*4294967296^m+p (m+1)*4294967296^(m+1)+p (m+2)*4294967296^(m+2)=((p (m+2)*4294967296+p (m+1))*4294967296+p m)*4294967296^m+nv p m;rw[Nat.pow_succ 4294967296 (m+1),Nat.pow_succ];exact qD4 _ _ _ _ _
theorem qBd(p:Nat->Nat)(n:Nat)(hn:2<=n):nv p n=(p (n-1)*4294967296+p (n-2))*4294967296^(n-2)+nv p (n-2):=by
 obtain⟨m,rfl⟩:∃m,n=m+2:=⟨n-2,by omega⟩;rw[rG,rG];show nv p m+p m*4294967296^m+p (m+1)*4294967296^(m+1)=(p (m+1)*4294967296+p m)*4294967296^m+nv p m;rw[Nat.pow_succ,Nat.add_mul,Nat.mul_comm (4294967296^m) 4294967296, <-Nat.mul_assoc];omega
structure vH(X Y T m k:Nat)(U Q:Nat->Nat):Prop where
 eq:nv U T+Y*(4294967296^k*nv (λt=>Q (k+t)) (m-k))=X
 lt:nv U T<Y*4294967296^k
theorem vH.congr{X Y T m k:Nat}{U Q Q':Nat->Nat}(h:vH X Y T m k U Q)(hq:∀i,k<=i->Q' i=Q i):vH X Y T m k U Q':=
 ⟨by rw[ou (λt=>Q' (k+t)) (λt=>Q (k+t)) _ (λi _=>hq _ (by omega))];exact h.eq,h.lt⟩
theorem vH.part{X Y T m j n:Nat}{U Q:Nat->Nat}(h:vH X Y T m (j+1) U Q)(hY:Y<4294967296^n)(hT:j+(n+1)<=T):nv U T=nv U j+4294967296^j*nv (λi=>U (j+i)) (n+1)/\nv (λi=>U (j+i)) (n+1)<Y*4294967296:=by
 have h1:nv U T<4294967296^(j+(n+1)):=by
  refine bB h.lt ?_;rw[show(4294967296:Nat)^(j+(n+1))=4294967296^n*4294967296^(j+1) by rw[<-Nat.pow_add];congr 1;omega];exact fq _ (Nat.le_of_lt hY)
 have h2:=qBa hT h1;refine⟨h2,?_⟩;have h3:=h.lt;rw[h2,Nat.pow_succ, <-Nat.mul_assoc,Nat.mul_right_comm]at h3
 have h4:4294967296^j*nv (λi=>U (j+i)) (n+1)<4294967296^j*(Y*4294967296):=by
  rw[Nat.mul_comm (4294967296^j) (Y*4294967296)];omega
 exact Nat.lt_of_mul_lt_mul_left h4
theorem vH.next{X Y T m j n q R:Nat}{U U' Q:Nat->Nat}(h:vH X Y T m (j+1) U Q)(hY:Y<4294967296^n)(hT:j+(n+1)<=T)(hj:j<m)(hq:Q j=q)(hU:∀i,i<j\/j+(n+1)<=i->U' i=U i)(hR:nv (λi=>U' (j+i)) (n+1)=R)(he:R+q*Y=nv (λi=>U (j+i)) (n+1))(hlt:R<Y)(hd:∀i,i<T->U i<4294967296):vH X Y T m j U' Q:=by
 obtain⟨h1,h2⟩:=h.part hY hT
 have hz:∀i,j+(n+1)<=i->i<T->U i=0:=λi h3 h4=>by
  have h5:nv U T<4294967296^(j+(n+1)):=by
   refine bB h.lt ?_;rw[show(4294967296:Nat)^(j+(n+1))=4294967296^n*4294967296^(j+1) by rw[<-Nat.pow_add];congr 1;omega];exact fq _ (Nat.le_of_lt hY)
  exact qpP h5 h3 h4
 have hv:nv U' T=nv U j+4294967296^j*R:=by
  obtain⟨r,rfl⟩:∃r,T=j+(n+1)+r:=⟨T-(j+(n+1)),by omega⟩;rw[xW U' (j+(n+1)) r,ou (λi=>U' (j+(n+1)+i)) (λ_=>0) r (λi hi=>by rw[hU _ (.inr (by omega))];exact hz _ (by omega) (by omega)),OJ,Nat.mul_zero,Nat.add_zero,xW,hR,ou U' U j λi hi=>hU i (.inl hi)]
 have hl:nv U j<4294967296^j:=qM U j λi hi=>hd i (by omega);refine⟨?_,?_⟩
 ·rw[<-h.eq,hv,h1, <-he];obtain⟨r,hr⟩:∃r,m-j=r+1:=⟨m-j-1,by omega⟩;rw[hr,Tu,show m-(j+1)=r by omega,ou (λi=>Q (j+(i+1))) (λt=>Q (j+1+t)) r (λi _=>by rw[show j+(i+1)=j+1+i by omega])];show _+Y*(4294967296^j*(Q (j+0)+_))=_;rw[Nat.add_zero,hq,Nat.pow_succ];generalize nv (λt=>Q (j+1+t)) r=z;generalize 4294967296^j=x;rw[Nat.mul_add x,Nat.mul_add Y,Nat.mul_add x];rw[show Y*(x*q)=x*(q*Y) by rw[Nat.mul_left_comm,Nat.mul_comm Y],show x*(4294967296*z)=x*4294967296*z from(Nat.mul_assoc _ _ _).symm];omega
 ·rw[hv,Nat.mul_comm Y];have:4294967296^j*(R+1)<=4294967296^j*Y:=Nat.mul_le_mul_left _ hlt;rw[Nat.mul_add,Nat.mul_one]at this;omega
theorem qu5{P Y q R:Nat}{b:Bool}{x:Nat}(hY:0<Y)(h1:P/Y<=q)(h2:q<=P/Y+1)(he:R+q*Y=P+(if b then 1 else 0)*x)(hR:R<x):(b=false->R+q*Y=P/\R<Y)/\(b=true->P<q*Y/\0<q/\P-(q-1)*Y<Y/\(q-1)*Y<=P):=by
 obtain⟨h3,h4⟩:=qu6 hY h1 h2;have hdm:=Nat.div_add_mod' P Y;have Oe:=Nat.mod_lt P hY;generalize P/Y=q0 at*;generalize P%Y=r0 at*;refine⟨λhb=>?_,λhb=>?_⟩
 ·subst hb;simp only[Bool.false_eq_true,if_false,Nat.zero_mul,Nat.add_zero]at he;have h5:=h3 (by omega);rw[h5]at he;exact⟨by rw[h5];exact he,by omega⟩
 ·subst hb;simp only[if_true,Nat.one_mul]at he
  have h5:P<q*Y:=by omega
  have h6:=h4 h5;rw[h6,Nat.add_sub_cancel];exact⟨by rw[<-h6];exact h5,by omega,by omega,by omega⟩
theorem qu3{P Y q R R2 k x:Nat}(he:R+q*Y=P+x)(ha:R2+k*x=R+Y)(hq:0<q)(EO:R2<x)(hle:(q-1)*Y<=P)(hlt:P-(q-1)*Y<Y)(hYx:Y<=x):R2+(q-1)*Y=P/\R2<Y:=by
 obtain⟨p,rfl⟩:∃p,q=p+1:=⟨q-1,by omega⟩;rw[Nat.add_sub_cancel]at hle hlt⊢;rw[Nat.add_mul,Nat.one_mul]at he
 have h1:R2+k*x+p*Y=P+x:=by omega
 have hk:k=1:=by
  rcases Nat.lt_or_ge k 1 with h|h
  ·have:k=0:=by omega
   subst this;omega
  ·rcases Nat.lt_or_ge 1 k with h2|h2
   ·have:2*x<=k*x:=fq _ h2;omega
   ·omega
 subst hk;omega
theorem qu4{x y s Q R:Nat}(hy:0<y)(h:R+y*2^s*Q=x*2^s)(hR:R<y*2^s):Q=x/y/\R/2^s=x%y:=by
 have hp:0<2^s:=Nat.pow_pos (by decide)
 have h1:x*2^s/(y*2^s)=Q:=by
  rw[<-h,Nat.add_mul_div_left _ _ (Nat.mul_pos hy hp),Nat.div_eq_of_lt hR,Nat.zero_add]
 have h2:x*2^s%(y*2^s)=R:=by
  rw[<-h,Nat.add_mul_mod_self_left,Nat.mod_eq_of_lt hR]
 rw[Nat.mul_div_mul_right _ _ hp]at h1;rw[Nat.mul_mod_mul_right]at h2;exact⟨h1.symm,by rw[<-h2,Nat.mul_div_cancel _ hp]⟩
theorem qvf{V:Nat->Nat}{n s:Nat}(hn:0<n)(hV:∀i,i<n->V i<4294967296)(ht:V (n-1)≠0)(hs:s<32)(hl:V (n-1)*2^s<4294967296):aF (nv V n*2^s)=n:=by
 obtain⟨m,rfl⟩:∃m,n=m+1:=⟨n-1,by omega⟩;rw[Nat.add_sub_cancel]at ht hl;have hp:0<2^s:=Nat.pow_pos (by decide);refine Nat.le_antisymm ((qC _ _).2 ?_) ?_
 ·obtain⟨t,htt⟩:∃t,32=s+t:=⟨32-s,by omega⟩
  have e0:(4294967296:Nat)=2^t*2^s:=by rw[<-Nat.pow_add,Nat.add_comm, <-htt]
  have h1:V m<2^t:=by
   rw[e0]at hl;exact Nat.lt_of_mul_lt_mul_right hl
  have h2:nv V (m+1)<(V m+1)*4294967296^m:=by
   have:=qM V m (λi hi=>hV i (by omega));rw[rG,Nat.add_mul,Nat.one_mul];omega
  have h3:nv V (m+1)*2^s<2^t*4294967296^m*2^s:=
   Nat.mul_lt_mul_of_pos_right (bB h2 (fq _ h1)) hp
  rw[show 2^t*4294967296^m*2^s=4294967296^(m+1) by rw[Nat.mul_right_comm, <-e0,Nat.pow_succ,Nat.mul_comm]]at h3;exact h3
 ·have h1:aF (nv V (m+1))=m+1:=VC V (m+1) hV (.inr ht);have h2:nv V (m+1)<=nv V (m+1)*2^s:=Nat.le_mul_of_pos_right _ hp;have:=fu h2;omega
def IQ(M:Nat->Prop)(w:World)(x y:Nat)(e:Ending)(w':World):Prop:=∃q r,e=.returned (.tuple #[q,r])/\ic M w' q (x/y)/\ic M w' r (x%y)/\Ext w w'
theorem qu8{M:Nat->Prop}(v v':Value)(x y:Nat)(w:World)(hM:Mb M w)(h:fC M w v x)(h':fC M w v' y)(hlt:x<y):
 Calls Tryz.prog 107 #[v,v'] w (IQ M w x y):=by
 have aJ:=ae (Fv v' y w hM h')
 go_enter Tryz.func107,Tryz.ntmps107
 go_wp2;refine wp_scope_straight ?_;go_wp2_with (fail);refine aJ.out.mono ?_;rintro e w1 ⟨u1,rfl,hu1,ah⟩;have aR:=Lh v u1 x y w1 (h.ext ah) hu1.dB;rw[Vv hlt]at aR;have fP:=ae aR;clear aR aJ;go_wp2_with (fail);refine fP.out.mono ?_;rintro e w2 ⟨rfl,az⟩;have oD:=ae (Fv v x w2 ((hM.ext ah).ext az) ((h.ext ah).ext az));have aZ:=ae (ah.trans az);clear fP;go_wp2_with (fail);refine oD.out.mono ?_;rintro e w3 ⟨u3,rfl,Si,aN⟩;have HF:Hid (IQ M w x y (.returned (.tuple #[.slice none 0 0,u3])) w3):=⟨_,_,rfl,by rw[Nat.div_eq_of_lt hlt];exact ic.nil M w3,by rw[Nat.mod_eq_of_lt hlt];exact Si,aZ.out.trans aN⟩;clear oD hu1 Si ah az aN h h' hM;go_wp2;exact aV (v:=.tuple #[.slice none 0 0,u3]) (by simp[results,Tryz.results107,go_sem]) rfl HF.out
theorem qjv{x y:Nat}(h:y<=x):lJ x y=0\/lJ x y=1:=by
 unfold lJ;rw[aj (by omega)]
 split
 ·exact .inr rfl
 ·exact .inl rfl
theorem qu9{M:Nat->Prop}(v v':Value)(x y:Nat)(w:World)(hM:Mb M w)(h:fC M w v x)(h':fC M w v' y)(hle:y<=x)(h1:aF y=1):
 Calls Tryz.prog 107 #[v,v'] w (IQ M w x y):=by
 have qL:y≠0:=λe=>by rw[e,qjO]at h1;omega
 have hyB:y<4294967296:=by have:=Bp y;rw[h1]at this;simpa using this
 have aJ:=ae (Fv v' y w hM h')
 go_enter Tryz.func107,Tryz.ntmps107
 go_wp2;refine wp_scope_straight ?_;go_wp2_with (fail);refine aJ.out.mono ?_;rintro e w1 ⟨u1,rfl,hu1,ah⟩;have fP:=ae (Lh v u1 x y w1 (h.ext ah) hu1.dB);obtain⟨V,hV,Km,_⟩:=hu1.len;rw[h1]at hV Km;obtain⟨ua,uc,rfl⟩:=kW hV;clear aJ;go_wp2_with (fail);refine fP.out.mono ?_;rintro e w2 ⟨rfl,az⟩
 have qdF:¬lJ x y<0:=by rcases qjv hle with h|h<;>omega
 generalize lJ x y=cc at*;obtain⟨b,o,rfl,hb,hc⟩:=mZ (hV.ext az) (by omega);have c0:=hc 0 (by omega);rw[Nat.add_zero,show V 0=y by have:=Km;simp[nv]at this;exact this]at c0;have oD:=ae (qAG v x y w2 ((hM.ext ah).ext az) ((h.ext ah).ext az) (by omega) hyB);have aZ:=ae (ah.trans az);have HM:=ae hM;clear fP hu1 hV Km ah az h h' hM hc;go_wp2_with (fail);refine oD.out.mono ?_;rintro e w3 ⟨q,rfl,hq,aN⟩;have hr:x%y<y:=Nat.mod_lt _ (by omega);have dK:=ae (aZ.out.trans aN);have HQ:=ae hq;have ym:=ae (Tk (M:=M) (x%y) w3 (HM.out.ext dK.out) (by omega));have lV:Hid (∃rr,rr=x%y):=⟨_,rfl⟩;obtain⟨rr,ze⟩:=lV.out;rw[<-ze]at hr ym;have lg:=ae ze;clear oD aN hq c0 hb lV;rw[<-ze];clear ze;go_wp2_with (fail);refine ym.out.mono ?_;rintro e w4 ⟨r,rfl,hr4,bg⟩;have HF:Hid (IQ M w x y (.returned (.tuple #[q,r])) w4):=⟨q,r,rfl,HQ.out.ext bg,by rw[<-lg.out];exact hr4,dK.out.trans bg⟩;clear ym hr4 bg;go_wp2;exact aV (v:=.tuple #[q,r]) (by simp[results,Tryz.results107,go_sem]) rfl HF.out
structure Pb(gu j n bV oV:Nat)(U V:Nat->Nat)(w:World):Prop where
 a:w.cell? ⟨gu,j+n,none⟩=some (.int .u32 (U (j+n)))
 b:w.cell? ⟨gu,j+(n-1),none⟩=some (.int .u32 (U (j+(n-1))))
 c:w.cell? ⟨gu,j+(n-2),none⟩=some (.int .u32 (U (j+(n-2))))
 d:w.cell? ⟨bV,oV+(n-1),none⟩=some (.int .u32 (V (n-1)))
 e:w.cell? ⟨bV,oV+(n-2),none⟩=some (.int .u32 (V (n-2)))
theorem Pb.ext{gu j n bV oV:Nat}{U V:Nat->Nat}{w w':World}(h:Pb gu j n bV oV U V w)(he:Ext w w'):Pb gu j n bV oV U V w':=by
 have h1:=dM _ _ h.a;have h2:=dM _ _ h.d;exact⟨by rw[he.cell h1];exact h.a,by rw[he.cell h1];exact h.b,by rw[he.cell h1];exact h.c,by rw[he.cell h2];exact h.d,by rw[he.cell h2];exact h.e⟩
theorem qu2{x y s n la:Nat}{U Q:Nat->Nat}(hn:n=aF y)(hy:y≠0)(AX:la=aF x)(hle:n<=la)(hU:nv U (la+1)=x*2^s):vH (x*2^s) (y*2^s) (la+1) (la+1-n) (la+1-n) U Q:=by
 have hp:0<2^s:=Nat.pow_pos (by decide);refine⟨?_,?_⟩
 ·rw[Nat.sub_self];show nv U (la+1)+y*2^s*(4294967296^(la+1-n)*0)=_;rw[Nat.mul_zero,Nat.mul_zero,Nat.add_zero,hU]
 rw[hU];have h1:=qjM y hy;have h2:=Bp x;have hpos:=QT hy;rw[<-hn]at h1 hpos;rw[<-AX]at h2
 have h3:4294967296^la<=y*4294967296^(la+1-n):=by
  rw[show(4294967296:Nat)^la=4294967296^(n-1)*4294967296^(la+1-n) by rw[<-Nat.pow_add];congr 1;omega];exact fq _ h1
 rw[Nat.mul_right_comm];exact Nat.mul_lt_mul_of_pos_right (bB h2 h3) hp
theorem qvT{P V u2 u1 u0 v1 v2 k lp lv:Nat}(hP:P=((u2*4294967296+u1)*4294967296+u0)*4294967296^k+lp)(hV:V=(v1*4294967296+v2)*4294967296^k+lv)(iH:lv<4294967296^k)(hv2:v2<4294967296)(hlt:P<V*4294967296):u2<=v1:=by
 refine gQ λhc=>?_
 have h1:V<(v1+1)*4294967296*4294967296^k:=by
  have:(v1*4294967296+v2+1)*4294967296^k<=(v1+1)*4294967296*4294967296^k:=fq _ (by omega);rw[Nat.add_mul _ 1,Nat.one_mul]at this;omega
 have h2:(v1+1)*4294967296*4294967296*4294967296^k<=((u2*4294967296+u1)*4294967296+u0)*4294967296^k:=fq _ (by omega)
 have h3:(v1+1)*4294967296*4294967296*4294967296^k=(v1+1)*4294967296*4294967296^k*4294967296:=by rw[Nat.mul_right_comm]
 omega
theorem qu7{M:Nat->Prop}(v v':Value)(x y:Nat)(w:World)(hM:Mb M w)(h:fC M w v x)(h':fC M w v' y)(hle:y<=x)(h2:2<=aF y)(hL:aF x+1<=1099511627776):
 Calls Tryz.prog 107 #[v,v'] w (IQ M w x y):=by
 obtain⟨i0,hi,hz0,hz1,hz2⟩:=info_parts Tryz.Fu
 have qL:y≠0:=λe=>by rw[e,qjO]at h2;omega
 have R4:aF y<=aF x:=fu hle;have aJ:=ae (Fv v' y w hM h')
 go_enter Tryz.func107,Tryz.ntmps107
 go_wp2;refine wp_scope_straight ?_;go_wp2_with (fail);refine aJ.out.mono ?_;rintro e w1 ⟨u1,rfl,hu1,ah⟩;have fP:=ae (Lh v u1 x y w1 (h.ext ah) hu1.dB);obtain⟨V0,Kk,qdh,Kl⟩:=hu1.len;obtain⟨n,hn⟩:∃n,n=aF y:=⟨_,rfl⟩;rw[<-hn]at Kk qdh Kl h2 R4;obtain⟨ua,uc,rfl⟩:=kW Kk;have hVt:V0 (n-1)≠0:=Kl.resolve_left (by omega);have Qm:=ae hVt;have HN:=ae hn;have qas:=ae qdh;have Qh:=ae Kk;have HX:=ae h;have HM:=ae hM;have aP:=ae ah;have U1:=ae qL;have qsP:=ae R4;have FW:=ae hle;clear aJ hn Kl hVt qdh Kk hu1 h h' hM ah qL R4 hle;go_wp2_with (fail);refine fP.out.mono ?_;rintro e w2 ⟨rfl,az⟩
 have qdF:¬lJ x y<0:=by rcases qjv FW.out with h|h<;>omega
 generalize lJ x y=cc at*;obtain⟨b,o,rfl,hb,hc⟩:=mZ (Qh.out.ext az) (by omega);have c0:=hc (n-1) (by omega);have hVl:=Qh.out.2.1 (n-1) (by omega);have oD:=ae (qtZ (V0 (n-1)) w2 Qm.out hVl);have aZ:=ae (aP.out.trans az);have Jq:=ae (Qh.out.ext az);have qiu:=ae Qh.out.2.1
 have AY:((n:Int)==1)=false:=by simp;omega
 have dY:n<=1099511627776:=Jq.out.1
 have k1:(0:Int)<=(n:Int)-1:=by omega
 have k2:((n:Int)-1).toNat=n-1:=by omega
 have k3:(n:Int)-1<(n:Int):=by omega
 clear fP az hc Qh;go_wp2_with (fail);refine oD.out.mono ?_;rintro e w3 ⟨s,rfl,⟨dI,hs2,mJ⟩,rfl⟩;have jF:=qvf (by omega) qiu.out Qm.out dI mJ;rw[qas.out]at jF;have tF:=ae jF;clear jF;have ym:=ae (qpp (M:=M) _ y s w3 (HM.out.ext aZ.out) ⟨_,_,Jq.out,qas.out⟩ dI (by rw[tF.out];exact dY));clear oD c0 hb hs2 mJ;go_wp2_with (fail);refine ym.out.mono ?_;rintro e w4 ⟨u4,rfl,hu4,bg⟩;obtain⟨V,hV,Km,Kl⟩:=hu4.len;rw[tF.out]at hV Km Kl;obtain⟨va,vc,rfl⟩:=kW hV;have qtu:Hid (V (n-1)≠0):=Kl.resolve_left (by omega);have jl:=ae (aZ.out.trans bg);have HV:=ae hV;have Mq:=ae Km;have O5:=ae (Fv v x w4 (HM.out.ext jl.out) (HX.out.ext jl.out));clear ym hu4 bg Kl hV Km Qm qiu qas Jq hVl;go_wp2_with (fail);refine O5.out.mono ?_;rintro e w5 ⟨u5,rfl,hu5,aU⟩;obtain⟨_,hA,_,_⟩:=hu5.len;obtain⟨la,AX⟩:∃la,la=aF x:=⟨_,rfl⟩
 have R4:n<=la:=by rw[AX,HN.out];exact(by have:=qsP.out;rw[HN.out]at this;exact this)
 rw[<-AX]at hA hL;have L8:=ae AX;obtain⟨aa,ac,rfl⟩:=kW hA;have cZ:=ae (jl.out.trans aU);have Jr:=ae (HV.out.ext aU);clear O5 hu5 aU hA HV AX
 go_wp2_with (first|(refine wpList_make_full _ rfl _ _ _ rfl w5.heap.size 140 i0 (.int .u32 0) 1 Tryz.underlying28 hi hz0 hz1 .i64 .i64 _ _ (la+1) rfl rfl ?c4 ?c5 ?c2 ?c3 ?c6 ?_))
 case c2=>rw[hz2];omega
 case c3=>unfold maxLen;omega
 case c4=>go_num
 case c5=>go_num
 case c6=>simp
 intro w6 hown hgrow;have HD6:Hid (iU w6 w5.heap.size (la+1) (λ_=>0)):=⟨au.Bq hown,λ_ _=>(by decide:0<4294967296)⟩;have Zn:=ae (mE hgrow)
 have Hg:aF (x*2^s)<=la+1:=by
  rw[qC,Nat.pow_succ,L8.out];refine Nat.mul_lt_mul'' (Bp x) ?_;exact bB (Nat.pow_lt_pow_right (by decide) dI) (by decide:2^32<=4294967296)
 have CT6:=ae (qpp (M:=M) v x s w6 (HM.out.ext (cZ.out.trans Zn.out)) (HX.out.ext (cZ.out.trans Zn.out)) dI (by omega));clear hown hgrow;go_wp2_with (fail);refine CT6.out.mono ?_;rintro e w7 ⟨u7,rfl,Sj,mF⟩;obtain⟨Xd,Ry,Db,_⟩:=Sj.len;obtain⟨lx,qd8⟩:∃lx,lx=aF (x*2^s):=⟨_,rfl⟩;rw[<-qd8]at Ry Db Hg;obtain⟨xa,xc,rfl⟩:=kW Ry
 have qzh:0<lx:=by
  rw[qd8];exact QT (Nat.ne_of_gt (Nat.mul_pos (bB (Nat.pos_of_ne_zero U1.out) FW.out) (Nat.pow_pos (by decide))))
 obtain⟨xb,xo,rfl,hxb,hxc⟩:=mZ Ry qzh;have yQ:=HD6.out.ext mF;have Ey:=ae hxc;have Gb:=ae Db;have Ga:=ae Ry.2.1;have qhb:=ae (Zn.out.trans mF);clear CT6 Sj mF Ry hxc HD6 qd8 Db
 go_wp2_with (refine TP rfl (.tmp 56) (.tmp 59) _ _ rfl 140 Tryz.underlying28 (by rw[hi];simp[hz1]) _ _ _ _ _ _ rfl rfl w5.heap.size 0 140 (la+1) _ yQ.1 lx ?k1 (λi=>.int .u32 (Xd i)) ?k2 ?k3 ?k4 ?_)
 case k1=>show _=min _ _;omega
 case k2=>exact⟨xb,xo,⟨rfl,rfl⟩,Ey.out⟩
 case k3=>omega
 case k4=>exactλj hj=>rfl
 intro w8 ru hg8;have hD8:=XR ru (λ_ _=>(by decide:0<4294967296)) Ga.out;have V5:=qpX lx (la+1) Xd (by omega);generalize (λi=>if 0<=i/\i<0+lx then Xd (i-0)else 0)=U0 at hD8 V5;rw[Gb.out]at V5;have Zh:=ae hD8;have qhc:Hid (Ext w5 w8):=qhb.out.grown hg8 (λk hk=>by cases hk;exact aA _);have kR:=ae (qu2 (Q:=λ_=>0) HN.out U1.out L8.out R4 V5);clear ru hg8 hD8 V5 yQ Ey Ga qhb
 have m1:(la:Int)+1-(n:Int)=((la+1-n:Nat):Int):=by omega
 obtain⟨m,hm⟩:∃m,m=la+1-n:=⟨_,rfl⟩;rw[<-hm]at kR m1;have fQ:=ae hm
 have pR:m+n=la+1:=by omega
 clear hm
 go_wp2_with (first|(refine wpList_make_full _ rfl _ _ _ rfl w8.heap.size 140 i0 (.int .u32 0) 1 Tryz.underlying28 hi hz0 hz1 .i64 .i64 _ _ m rfl rfl ?c4 ?c5 ?c2 ?c3 ?c6 ?_))
 case c2=>rw[hz2];omega
 case c3=>unfold maxLen;omega
 case c4=>first|go_num|(simp;omega)
 case c5=>first|go_num|(simp;omega)
 case c6=>simp
 intro w9 hown hgrow;have HQ9:Hid (iU w9 w8.heap.size m (λ_=>0)):=⟨au.Bq hown,λ_ _=>(by decide:0<4294967296)⟩;have Zo:=ae (mE hgrow);have HD9:=ae (Zh.out.ext Zo.out);have qng:w5.heap.size<w8.heap.size:=Zh.out.1.lt;clear hown hgrow Zh;go_wp2;refine wp_label ?_;go_wp2
 go_loopw [13] (λi wr=>∃(k:Nat)(U Q:Nat->Nat),k<=m/\i=.int .i64 ((k:Int)-1)/\Hid (iU wr w5.heap.size (la+1) U)/\Hid (iU wr w8.heap.size m Q)/\Hid (vH (x*2^s) (y*2^s) (la+1) m k U Q)/\Hid (Ext w5 wr)) (λi _=>(intOf i+1).toNat)
 case atStart=>exact⟨m,U0,_,aA _,rfl,HD9,HQ9,kR,qhc.out.trans Zo.out⟩
 case round=>
  clear kR HQ9 HD9 Zo;obtain⟨k,U,Q,hk,rfl,uB,wT,nC,eY⟩:=hrel
  by_cases iq:k=0
  ·subst iq;have HYP:Hid (fC M wr (.slice (some ⟨w8.heap.size,0,none⟩) m m) (nv Q m)):=⟨m,Q,dL.Iq wT.out.1 ((HM.out.ext (cZ.out.trans qhc.out)).new (aA _)) m (aA _) (by omega) (aA _) (by unfold maxLen;omega) (λi _=>rfl) wT.out.2,rfl⟩;have HUP:Hid (fC M wr (.slice (some ⟨w5.heap.size,0,none⟩) (la+1) (la+1)) (nv U (la+1))):=⟨la+1,U,dL.Iq uB.out.1 ((HM.out.ext cZ.out).new (aA _)) (la+1) (aA _) (by omega) (aA _) (by unfold maxLen;omega) (λi _=>rfl) uB.out.2,rfl⟩
   have Ps:Hid (nv Q m=x/y/\nv U (la+1)/2^s=x%y):=by
    have h1:=nC.out.eq;have h2:=nC.out.lt;rw[Nat.pow_zero,Nat.one_mul,Nat.sub_zero]at h1;rw[Nat.pow_zero,Nat.mul_one]at h2;rw[ou (λt=>Q (0+t)) Q m (λi _=>by rw[Nat.zero_add])]at h1;exact qu4 (Nat.pos_of_ne_zero U1.out) h1 h2
   have CT7:=ae (Fv (.slice (some ⟨w8.heap.size,0,none⟩) m m) (nv Q m) wr (HM.out.ext (cZ.out.trans eY.out)) HYP.out);clear nC wT uB;go_wp2_with (fail);refine CT7.out.mono ?_;rintro e wa ⟨qv,rfl,hqv,tX⟩;have CT8:=ae (qAK (M:=M) _ (nv U (la+1)) s wa ((HM.out.ext (cZ.out.trans eY.out)).ext tX) (HUP.out.ext tX) dI);have HQV:=ae hqv;have ek:=ae ((cZ.out.trans eY.out).trans tX);clear CT7 hqv tX;go_wp2_with (fail);refine CT8.out.mono ?_;rintro e wb ⟨rv,rfl,hrv,NU⟩;have HF:Hid (IQ M w x y (.returned (.tuple #[qv,rv])) wb):=⟨qv,rv,rfl,by rw[<-Ps.out.1];exact HQV.out.ext NU,by rw[<-Ps.out.2];exact hrv,ek.out.trans NU⟩;clear CT8 hrv NU;go_wp2;exact aV (v:=.tuple #[qv,rv]) (by simp[results,Tryz.results107,go_sem]) rfl HF.out
  ·obtain⟨j,hj⟩:∃j,j=k-1:=⟨k-1,rfl⟩
   obtain rfl:k=j+1:=by omega
   rw[show((j+1:Nat):Int)-1=(j:Int) by omega];obtain⟨vb,vo,rfl,K7,Sq⟩:=mZ Jr.out (by omega)
   have hvw:vb<wr.heap.size:=by have:=eY.out.size;omega
   have HYB:Hid (y*2^s<4294967296^n):=by rw[<-tF.out];exact Bp _
   obtain⟨pK,EM⟩:=nC.out.part HYB.out (by omega)
   have q1:(j:Int)<=(j:Int)+(n:Int)+1:=by omega
   have q2:(j:Int)+(n:Int)+1<=(la:Int)+1:=by omega
   have q3:¬la+1=j:=by omega
   clear hj
   go_upto_region 17 with(fail)
   rw[show j+n+1-j=n+1 by omega];have d5:Pb w5.heap.size j n vb vo U V wr:=⟨uB.out.1.cell (by omega),uB.out.1.cell (by omega),uB.out.1.cell (by omega),by rw[eY.out.cell K7];exact Sq _ (by omega),by rw[eY.out.cell K7];exact Sq _ (by omega)⟩;have dU:=ae (d5.ext (ai _).drew);have UU:=ae Jr.out.2.1;obtain⟨e2,az⟩:∃e,e=U (j+n):=⟨_,rfl⟩;obtain⟨e1,ah⟩:∃e,e=U (j+(n-1)):=⟨_,rfl⟩;obtain⟨e0,wu⟩:∃e,e=U (j+(n-2)):=⟨_,rfl⟩;obtain⟨f1,ku⟩:∃e,e=V (n-1):=⟨_,rfl⟩;obtain⟨f0,jw⟩:∃e,e=V (n-2):=⟨_,rfl⟩;have Kj:=qBc (λi=>U (j+i)) n h2;have V9:=qBd V n h2;have qnf:nv (λi=>U (j+i)) (n-2)<4294967296^(n-2):=qM _ _ λi hi=>uB.out.2 _ (by omega);have qd6:nv V (n-2)<4294967296^(n-2):=qM _ _ λi hi=>UU.out _ (by omega);rw[<-Mq.out]at EM
   have qmu:0<f1:=by rw[ku];exact Nat.pos_of_ne_zero qtu.out
   have gU:e2<4294967296:=by rw[az];exact uB.out.2 _ (by omega)
   have hb1:e1<4294967296:=by rw[ah];exact uB.out.2 _ (by omega)
   have iZ:e0<4294967296:=by rw[wu];exact uB.out.2 _ (by omega)
   have fw:f1<4294967296:=by rw[ku];exact UU.out _ (by omega)
   have lY:f0<4294967296:=by rw[jw];exact UU.out _ (by omega)
   simp only[<-az, <-ah, <-wu]at Kj;rw[<-ku, <-jw]at V9;obtain⟨Wm,qmr⟩:=qvS Kj V9 qnf qd6 qmu EM;have om:e2<=f1:=qvT Kj V9 qd6 lY EM
   have qms:gL e2 e1 e0 f1 f0<4294967296:=by
    have:gL e2 e1 e0 f1 f0<=4294967295:=Nat.min_le_left _ _;omega
   have zP:=λW=>ae (qvq e2 e1 e0 f1 f0 W om hb1 iZ qmu fw lY);generalize gL e2 e1 e0 f1 f0=jR at*;have qhe:Hid (nv (λi=>U (j+i)) (n+1)/nv V n<=jR/\jR<=nv (λi=>U (j+i)) (n+1)/nv V n+1):=⟨Wm,qmr⟩;have UF:=ae pK;have dG:=ae EM;have lu:=eY.out.size
   have k4:((n:Int)-2).toNat=n-2:=by omega
   have k5:(0:Int)<=(n:Int)-2:=by omega
   have k6:(n:Int)-2<(n:Int)+1:=by omega
   have k7:(n:Int)-1<(n:Int)+1:=by omega
   have k8:(n:Int)-2<(n:Int):=by omega
   have k9:(n:Int)<(n:Int)+1:=by omega
   have Xn:(1:Int)<=(n:Int):=by omega
   have Xo:(2:Int)<=(n:Int):=by omega
   have kw1:IntKind.i64.wrap ((n:Int)-1)=(n:Int)-1:=IntWalk.i64_in _ (by omega);have kw2:IntKind.i64.wrap ((n:Int)-2)=(n:Int)-2:=IntWalk.i64_in _ (by omega);clear pK EM Kj V9 qnf qd6 Wm qmr om gU hb1 iZ fw lY d5 Sq;refine fB (Pb w5.heap.size j n vb vo U V) 28 dU.out λhHeld=>?_;refine bH [0,1,2,3,4,5,6,7,8,9,10,11,12,13,14,15,16,17,18,19,20,21,22,23,24,25] ?_;(iterate 26 refine bG ?_ (hy:=by intro wS hSw;obtain⟨S1,S2,S3,S4,S5⟩:=hSw;go_simp;try with_reducible rfl));refine bI ?_;simp only[<-az, <-ah, <-wu, <-ku, <-jw];clear az ah wu ku jw lu q1 q2 q3 k4 k5 k6 k7 k8 k9 Xn Xo kw1 kw2
   (refine aI 26 λK hK=>?_);go_simp;(refine((zP _).out).mono ?_);rintro e_ wz ⟨rfl,xN⟩;go_wp2_with (fail);(try clear ak);(refine ny hK (hHeld.ext xN) λak=>?_);clear hK K
   have Zk:=ae ((ai wr).drew.trans xN);have VS:=wT.out.ext Zk.out;have hq1:=VS.1.cell (i:=j) (by omega);have hq2:=VS.1.frozen j
   have q4:j<m:=by omega
   refine bH [27] ?_;(iterate 1 refine bG ?_ (hy:=by intro wS hSw;obtain⟨S1,S2,S3,S4,S5⟩:=hSw;go_simp;try with_reducible rfl));refine bI ?_
   (refine aI 28 λK hK=>?_);go_simp;(refine fz hK ?_);clear hK K
   rename_i wz;have qkU:=VS.set j jR qms;have gT:∃W2,W2=wz.setCell ⟨w8.heap.size,j,none⟩ (.int .u32 (jR:Int)):=⟨_,rfl⟩;obtain⟨W2,gT⟩:=gT
   have qg9:Hid (Ext w5 W2):=by rw[gT];exact(eY.out.trans Zk.out).set (p:=⟨w8.heap.size,j,none⟩) (Nat.le_of_lt qng) _
   have Zj:Hid (iU W2 w5.heap.size (la+1) U):=by
    rw[gT];have:=uB.out.ext Zk.out;exact⟨this.1.kM (p:=⟨w8.heap.size,j,none⟩) (by show w5.heap.size≠w8.heap.size;omega) _,this.2⟩
   have LQ:Hid (iU W2 w8.heap.size m (cO Q j jR)):=by rw[gT];exact qkU
   rw[<-gT]
   have c1:W2.cell? ⟨w8.heap.size,j,none⟩=some (.int .u32 (jR:Int)):=by
    rw[LQ.out.1.cell (by omega)];unfold cO;rw[av rfl]
   have fE:w8.heap.size<W2.heap.size:=LQ.out.1.lt;have F7:=ae (qvu w5.heap.size j n (la+1-j) (la+1) (some ⟨vb,vo,none⟩) vc jR U V W2 Zj.out (by omega) (Jr.out.ext qg9.out) (λp hp=>by cases hp;show vb≠w5.heap.size;omega) qms (by omega));clear xN VS hq1 hq2 qkU hHeld gT zP dU;go_wp2_with (fail);refine F7.out.mono ?_;rintro e_ W3 ⟨bb,U3,rfl,ES,NH⟩
   have qtC:Hid (0<nv V n):=by rw[Mq.out];exact Nat.mul_pos (Nat.pos_of_ne_zero U1.out) (Nat.pow_pos (by decide))
   have hUp:nv (λi=>U3 (j+i)) (n+1)<4294967296^(n+1):=qM _ _ λi hi=>ES.dg.2 _ (by omega);obtain⟨rE,kV⟩:=qu5 (b:=bb) (x:=4294967296^(n+1)) qtC.out qhe.out.1 qhe.out.2 (by rw[<-NH,Nat.mul_comm]) hUp;have Jk:=ae ES;have nI:=ae NH;have uE:=ae rE;have xh:=ae kV;have Zl:Hid (Ext w5 W3):=qg9.out.grown ES.gr (λk hk=>by cases hk;exact aA _)
   have LU:Hid (iU W3 w8.heap.size m (cO Q j jR)):=by
    refine⟨LQ.out.1.of_heap (ES.gr.block _ LQ.out.1.lt (λe=>?_)),LQ.out.2⟩;simp only[Option.some.injEq]at e;omega
   clear ES NH rE kV hUp F7 LQ c1;cases bb
   ·have BQ:Hid (vH (x*2^s) (y*2^s) (la+1) m j U3 (cO Q j jR)):=by
     have h1:=uE.out rfl
     have h2:vH (x*2^s) (y*2^s) (la+1) m (j+1) U (cO Q j jR):=nC.out.congr λi hi=>by unfold cO;rw[aj (by omega)]
     exact h2.next HYB.out (by omega) q4 (by unfold cO;rw[av rfl]) (λi hi=>Jk.out.same i (by omega)) rfl (by rw[<-Mq.out];exact h1.1) (by rw[<-Mq.out];exact h1.2) uB.out.2
    have qse:=ae Jk.out.dg;clear uE xh nI Jk nC wT uB Zj;go_wp2
    go_roundw
    case rel=>exact⟨j,U3,cO Q j jR,by omega,by go_num,qse,LU,BQ,Zl⟩
    case measure=>simp[intOf]
   ·have h1:=xh.out rfl;have hep:0<jR:=h1.2.1;have H1:=ae h1
    have c3:W3.cell? ⟨w8.heap.size,j,none⟩=some (.int .u32 (jR:Int)):=by
     rw[LU.out.1.cell (by omega)];unfold cO;rw[av rfl]
    have c4:=LU.out.1.frozen j;have iM:=LU.out.1.lt
    have kw:(jR:Int)-1=((jR-1:Nat):Int):=by omega
    have kw3:IntKind.u32.wrap ((jR:Int)-1)=(jR:Int)-1:=by rw[kw];exact wrap_u32 _ (by omega)
    clear h1 kw
    go_upto_region 20 with(fail)
    obtain⟨W4,gN⟩:∃W4,W4=W3.setCell ⟨w8.heap.size,j,none⟩ (.int .u32 ((jR:Int)-1)):=⟨_,rfl⟩
    have Wm:jR-1<4294967296:=by omega
    have qha:Hid (Ext w5 W4):=by rw[gN];exact Zl.out.set (p:=⟨w8.heap.size,j,none⟩) (Nat.le_of_lt qng) _
    have qg6:Hid (iU W4 w5.heap.size (la+1) U3):=by
     rw[gN];exact⟨Jk.out.dg.1.kM (p:=⟨w8.heap.size,j,none⟩) (by show w5.heap.size≠w8.heap.size;omega) _,Jk.out.dg.2⟩
    have Um:Hid (iU W4 w8.heap.size m (cO (cO Q j jR) j (jR-1))):=by
     rw[gN,show(jR:Int)-1=((jR-1:Nat):Int) by omega];exact LU.out.set j _ Wm
    rw[<-gN];have HAB:=ae (qvn w5.heap.size j n (la+1-j) (la+1) (some ⟨vb,vo,none⟩) vc U3 V W4 qg6.out (by omega) (Jr.out.ext qha.out) (λp hp=>by cases hp;show vb≠w5.heap.size;omega) (by omega));clear c3 c4 iM kw3 gN LU Zl;go_wp2_with (fail);refine HAB.out.mono ?_;rintro e_ W5 ⟨kk,U5,rfl,vV,NI⟩;have qsk:Hid (Ext w5 W5):=qha.out.grown vV.gr (λk hk=>by cases hk;exact aA _)
    have qsd:Hid (iU W5 w8.heap.size m (cO (cO Q j jR) j (jR-1))):=by
     refine⟨Um.out.1.of_heap (vV.gr.block _ Um.out.1.lt (λe=>?_)),Um.out.2⟩;simp only[Option.some.injEq]at e;omega
    have qsf:=ae vV.dg
    have BQ:Hid (vH (x*2^s) (y*2^s) (la+1) m j U5 (cO (cO Q j jR) j (jR-1))):=by
     have h2:vH (x*2^s) (y*2^s) (la+1) m (j+1) U (cO (cO Q j jR) j (jR-1)):=nC.out.congr λi hi=>by unfold cO;rw[aj (by omega),aj (by omega)]
     have h3:=nI.out;simp only[if_true,Nat.one_mul]at h3;have h4:nv (λi=>U5 (j+i)) (n+1)<4294967296^(n+1):=qM _ _ λi hi=>vV.dg.2 _ (by omega)
     have h5:nv V n<=4294967296^(n+1):=by
      have h6:=qM V n UU.out;rw[Nat.pow_succ];omega
     have h7:=qu3 (Y:=nv V n) h3 NI hep h4 H1.out.2.2.2 H1.out.2.2.1 h5;exact h2.next HYB.out (by omega) q4 (by unfold cO;rw[av rfl]) (λi hi=>by rw[vV.same i (by omega),Jk.out.same i (by omega)]) rfl (by rw[<-Mq.out];exact h7.1) (by rw[<-Mq.out];exact h7.2) uB.out.2
    clear HAB vV NI H1 uE xh nI Jk nC wT uB Zj qg6 Um;go_wp2
    go_roundw
    case rel=>exact⟨j,U5,cO (cO Q j jR) j (jR-1),by omega,by go_num,qsf,qsd,BQ,qsk⟩
    case measure=>simp[intOf]
theorem qjU{M:Nat->Prop}(v v':Value)(x y:Nat)(w:World)(hM:Mb M w)(h:fC M w v x)(h':fC M w v' y)(hy:y≠0)(hL:aF x+1<=1099511627776):
 Calls Tryz.prog 107 #[v,v'] w (IQ M w x y):=by
 by_cases hlt:x<y
 ·exact qu8 v v' x y w hM h h' hlt
 ·by_cases h1:aF y=1
  ·exact qu9 v v' x y w hM h h' (by omega) h1
  ·exact qu7 v v' x y w hM h h' (by omega) (by have:=QT hy;omega) hL
theorem qjX{M:Nat->Prop}(b:Bool)(a:Option Addr)(n p:Nat)(z:Int)(w:World)(h:dh M w (.bool b) (.slice a n p) z):
 Calls Tryz.prog 75 #[.agg #[.bool b,.slice a n p]] w λe w'=>e=.returned (.bool (decide (z=0)))/\Ext w w':=by
 have hE:Ext w (w.alloc (.cells #[.bool b,.slice a n p] 30)):=(ai w).alloc _;have HI:=ae (h.ext hE)
 have hz:(z.sign==0)=decide (z=0):=by
  rw[Bool.eq_iff_iff,beq_iff_eq,decide_eq_true_iff,Int.sign_eq_zero_iff_zero]
 have HZ:=ae hz;clear h hz
 go_enter Tryz.func75,Tryz.ntmps75
 go_wp2_with (fail);refine(Lb _ _ z _ HI.out).mono ?_;rintro e w1 ⟨rfl,ah⟩;generalize z.sign=s at*;have HE:=ae (hE.trans ah);clear hE ah HI;go_wp2;go_ret;exact⟨by rw[HZ.out];rfl,HE.out⟩
theorem qC3(na nb:Bool)(x y:Nat):(bO na x).tdiv (bO nb y)=bO (na !=nb) (x/y):=by
 unfold bO;cases na<;>cases nb<;>simp[Int.neg_tdiv,Int.tdiv_neg,Int.ofNat_tdiv]
theorem qC4(na nb:Bool)(x y:Nat):(bO na x).tmod (bO nb y)=bO na (x%y):=by
 unfold bO;cases na<;>cases nb<;>simp[Int.neg_tmod,Int.tmod_neg]<;>exact Int.tmod_eq_emod_of_nonneg (jE _)
def qiT(M:Nat->Prop)(w:World)(y z:Int)(e:Ending)(w':World):Prop:=∃(b:Bool)(a:Option Addr)(n p:Nat)(b2:Bool)(a2:Option Addr)(n2 p2:Nat),e=.returned (.tuple #[.agg #[.bool b,.slice a n p],.agg #[.bool b2,.slice a2 n2 p2],.int .i64 0])/\dH M w' (.bool b) (.slice a n p) (y.tdiv z)/\dH M w' (.bool b2) (.slice a2 n2 p2) (y.tmod z)/\Ext w w'
def Gj(g h:Nat)(b b':Bool)(w:World):Prop:=w.cell? ⟨g,0,none⟩=some (.bool b)/\w.cell? ⟨h,0,none⟩=some (.bool b')
theorem Gj.ext{g h:Nat}{b b':Bool}{w w':World}(k:Gj g h b b' w)(he:Ext w w'):Gj g h b b' w':=by
 have h1:=dM _ _ k.1;have h2:=dM _ _ k.2;exact⟨by rw[he.cell h1];exact k.1,by rw[he.cell h2];exact k.2⟩
theorem M5(w:World){g k b o:Nat}(u:Value)(h:b≠g):(w.setCell ⟨g,k,none⟩ u).cell? ⟨b,o,none⟩=w.cell? ⟨b,o,none⟩:=
 World.cell?_of_block (Below.heap_setCell w ⟨g,k,none⟩ u b h)
theorem qbZ{M':Nat->Prop}{w W:World}{g h:Nat}{t t':TypeId}{f f':Nat->Value}(A B C D:Value)(hB:au W g t 2 f)(hC:au W h t' 2 f')(hne:g≠h)(hg:M' g)(hh:M' h)(hw:w.heap.size<=g)(hw':w.heap.size<=h)(he:Ext w W):
 ∃WA WB,WA=(W.setCell ⟨g,0,none⟩ A).setCell ⟨g,1,none⟩ B/\WB=(WA.setCell ⟨h,0,none⟩ C).setCell ⟨h,1,none⟩ D/\
 (W.cell? ⟨g,0,none⟩=some (f 0)/\W.cell? ⟨g,1,none⟩=some (f 1)/\W.frozen? ⟨g,0,none⟩=false/\W.frozen? ⟨g,1,none⟩=false)/\
 (WA.cell? ⟨h,0,none⟩=some (f' 0)/\WA.cell? ⟨h,1,none⟩=some (f' 1)/\WA.frozen? ⟨h,0,none⟩=false/\WA.frozen? ⟨h,1,none⟩=false)/\
 (WB.cell? ⟨g,0,none⟩=some A/\WB.cell? ⟨g,1,none⟩=some B/\WB.cell? ⟨h,0,none⟩=some C/\WB.cell? ⟨h,1,none⟩=some D)/\
 Kp M' W WB/\Ext w WB/\(∀b o,b≠g->WA.cell? ⟨b,o,none⟩=W.cell? ⟨b,o,none⟩)/\(∀b o,b≠g->b≠h->WB.cell? ⟨b,o,none⟩=W.cell? ⟨b,o,none⟩)/\Ext w WA:=by
 have bJ:=(hB.set 0 A).set 1 B;have jM:=(hC.kM (p:=⟨g,0,none⟩) (λe=>hne e.symm) A).kM (p:=⟨g,1,none⟩) (λe=>hne e.symm) B;have CQ:=(jM.set 0 C).set 1 D;have eG:=(bJ.kM (p:=⟨h,0,none⟩) hne C).kM (p:=⟨h,1,none⟩) hne D;refine⟨_,_,rfl,rfl,⟨hB.cell (by omega),hB.cell (by omega),hB.frozen 0,hB.frozen 1⟩,⟨jM.cell (by omega),jM.cell (by omega),jM.frozen 0,jM.frozen 1⟩,⟨?_,?_,?_,?_⟩,?_,?_,?_,?_,?_⟩
 ·rw[eG.cell (i:=0) (by omega)];simp[fG]
 ·rw[eG.cell (i:=1) (by omega)];simp[fG]
 ·rw[CQ.cell (i:=0) (by omega)];simp[fG]
 ·rw[CQ.cell (i:=1) (by omega)];simp[fG]
 ·exact(((Kp.set _ _ hg _).trans (Kp.set _ _ hg _)).trans (Kp.set _ _ hh _)).trans (Kp.set _ _ hh _)
 ·exact(((he.set (p:=⟨g,0,none⟩) hw _).set (p:=⟨g,1,none⟩) hw _).set (p:=⟨h,0,none⟩) hw' _).set (p:=⟨h,1,none⟩) hw' _
 ·intro b o hb;rw[M5 _ _ hb,M5 _ _ hb]
 ·intro b o hb hb';rw[M5 _ _ hb',M5 _ _ hb',M5 _ _ hb,M5 _ _ hb]
 ·exact(he.set (p:=⟨g,0,none⟩) hw _).set (p:=⟨g,1,none⟩) hw _
theorem qbO{M:Nat->Prop}(b:Bool)(a:Option Addr)(n p:Nat)(y:Int)(b':Bool)(a':Option Addr)(n' p':Nat)(z:Int)(w:World)(hM:Mb M w)(h:dh M w (.bool b) (.slice a n p) y)(h':dh M w (.bool b') (.slice a' n' p') z)(hz:z≠0)(hL:aF y.natAbs+1<=1099511627776):
 Calls Tryz.prog 74 #[.agg #[.bool b,.slice a n p],.agg #[.bool b',.slice a' n' p']] w (qiT M w y z):=by
 have aW:=((((au.aO w #[.bool b,.slice a n p] 30 2 rfl).alloc (.cells #[.bool b',.slice a' n' p'] 30)).alloc (.cells #[.bool false,.slice none 0 0] 30)).alloc (.cells #[.bool false,.slice none 0 0] 30));have bA:=(((au.aO (w.alloc (.cells #[.bool b,.slice a n p] 30)) #[.bool b',.slice a' n' p'] 30 2 rfl).alloc (.cells #[.bool false,.slice none 0 0] 30)).alloc (.cells #[.bool false,.slice none 0 0] 30));have bJ:=((au.aO ((w.alloc (.cells #[.bool b,.slice a n p] 30)).alloc (.cells #[.bool b',.slice a' n' p'] 30)) #[.bool false,.slice none 0 0] 30 2 rfl).alloc (.cells #[.bool false,.slice none 0 0] 30));have eG:=au.aO (((w.alloc (.cells #[.bool b,.slice a n p] 30)).alloc (.cells #[.bool b',.slice a' n' p'] 30)).alloc (.cells #[.bool false,.slice none 0 0] 30)) #[.bool false,.slice none 0 0] 30 2 rfl;have aL:Ext w ((((w.alloc (.cells #[.bool b,.slice a n p] 30)).alloc (.cells #[.bool b',.slice a' n' p'] 30)).alloc (.cells #[.bool false,.slice none 0 0] 30)).alloc (.cells #[.bool false,.slice none 0 0] 30)):=((((ai w).alloc _).alloc _).alloc _).alloc _;simp only[World.size_alloc]at bA bJ eG;have bD:Mb (Mx M w.heap.size (w.heap.size+4)) ((((w.alloc (.cells #[.bool b,.slice a n p] 30)).alloc (.cells #[.bool b',.slice a' n' p'] 30)).alloc (.cells #[.bool false,.slice none 0 0] 30)).alloc (.cells #[.bool false,.slice none 0 0] 30)):=Mx.mb hM (by simp;omega) (by simp);have h0:=(h.more (M':=Mx M w.heap.size (w.heap.size+4)) (Mx.more (aA _))).ext aL
 have oK:=(h'.more (M':=Mx M w.heap.size (w.heap.size+4)) (Mx.more (aA _))).ext aL;generalize fK:(((w.alloc (.cells #[.bool b,.slice a n p] 30)).alloc (.cells #[.bool b',.slice a' n' p'] 30)).alloc (.cells #[.bool false,.slice none 0 0] 30)).alloc (.cells #[.bool false,.slice none 0 0] 30)=W0 at*;have iY:=ae fK;have dO:=ae aW;have bS:=ae bA;have cK:=ae bJ;have sW:=ae eG;have dC:=ae aL;have iE:=ae bD;have FV:=ae h0;have rR:=ae oK;clear h h' hM fK aW bA bJ eG aL bD h0 oK
 go_enter Tryz.func74,Tryz.ntmps74
 go_upto_region 1 with(fail)
 rw[iY.out];have Vp:=dO.out.cell (i:=0) (by omega);have c01:=dO.out.cell (i:=1) (by omega);have Vq:=bS.out.cell (i:=0) (by omega);have c11:=bS.out.cell (i:=1) (by omega);simp only[arr]at Vp c01 Vq c11;have g0:=dO.out.lt;have g1:=bS.out.lt;have aR:=qjX _ _ _ _ z W0 rR.out;rw[decide_eq_false hz]at aR;have aJ:=ae aR;clear aR;go_wp2_with (fail);refine aJ.out.mono ?_;rintro e w1 ⟨rfl,ah⟩;obtain⟨nb,x1,hb1,fo,jX⟩:=FV.out.ext ah;obtain⟨nb',x2,gU,sI,ui⟩:=rR.out.ext ah;simp only[Value.bool.injEq]at hb1 gU;subst hb1 gU;have qoe:x2≠0:=λe=>hz (by rw[ui,e];unfold bO;split<;>rfl);have fP:=ae (qjU _ _ x1 x2 w1 (iE.out.ext ah) fo sI qoe (by rw[jX,vB]at hL;exact hL));have uH:=ae jX;have qw:=ae ui;have aP:=ae ah;rw[<-ah.cell g0]at Vp c01;rw[<-ah.cell g1]at Vq c11;have g0:=bB g0 ah.size;have g1:=bB g1 ah.size;clear aJ fo sI jX ui ah qoe hz hL;go_wp2_with (fail);refine fP.out.mono ?_;rintro e w2 ⟨q,r,rfl,hq,hr,az⟩;obtain⟨qa,qn,qc,rfl⟩:=hq.dB.form;obtain⟨ra,rn,rc,rfl⟩:=hr.dB.form;have aZ:=ae ((aP.out.trans az).drew);have HQ:=ae (hq.dB.ext (ai w2).drew);have HR:=ae (hr.dB.ext (ai w2).drew);have dU:Hid (Gj w.heap.size (w.heap.size+1) b b' w2.drew):=Gj.ext ⟨Vp,Vq⟩ (az.drew);have iQ:=ae (iE.out.ext aZ.out)
 clear fP hq hr az Vp c01 Vq c11
 go_upto_region 4 with(fail)
 refine fB (Gj w.heap.size (w.heap.size+1) b b') 13 dU.out λhHeld=>?_;refine bH [0,1,2,3,4,5,7,8,9] ?_;(iterate 9 refine bG ?_);refine bI ?_
 (refine aI 6 λK hK=>?_);go_simp;(refine(Ov (b !=b') _ (x1/x2) _ iQ.out HQ.out).mono ?_);rintro e_ wz ⟨k0,k1,rfl,hk,aN⟩;go_wp2_with (fail);(try clear ak);(refine ny hK (hHeld.ext aN) λak=>?_);clear hK K
 obtain⟨kb,ka,kn,kp,rfl,rfl⟩:=hk.form
 (refine aI 10 λK hK=>?_);go_simp;(refine(Ov b _ (x1%x2) _ (iQ.out.ext aN) (HR.out.ext aN)).mono ?_);rintro e_ wz ⟨m0,m1,rfl,hm,bg⟩;go_wp2_with (fail);(try clear ak);(refine ny hK (hHeld.ext (aN.trans bg)) λak=>?_);clear hK K
 rename_i wz;obtain⟨mb,ma,mn,mp,rfl,rfl⟩:=hm.form;have jl:=ae (aZ.out.trans (aN.trans bg));have HK:=ae (hk.ext bg);have ZK:=ae hm;have UQ:=ae ak;obtain⟨WA,WB,tV,EW,⟨q0,q1,q2,q3⟩,⟨p0,p1,p2,p3⟩,⟨r0,r1,r2,r3⟩,aT,bN,De,Kv,_⟩:=qbZ (M':=Mx M w.heap.size (w.heap.size+4)) (w:=w) (.bool kb) (.slice ka kn kp) (.bool mb) (.slice ma mn mp) (cK.out.ext jl.out) (sW.out.ext jl.out) (by omega) (Mx.at (by omega)) (Mx.at (by omega)) (by omega) (by omega) (dC.out.trans jl.out);have hSA:Gj w.heap.size (w.heap.size+1) b b' WA:=⟨by rw[De _ _ (by omega)];exact UQ.out.1,by rw[De _ _ (by omega)];exact UQ.out.2⟩;have hSB:Gj w.heap.size (w.heap.size+1) b b' WB:=⟨by rw[Kv _ _ (by omega) (by omega)];exact UQ.out.1,by rw[Kv _ _ (by omega) (by omega)];exact UQ.out.2⟩
 have HF:Hid (qiT M w y z (.returned (.tuple #[.agg #[.bool kb,.slice ka kn kp],.agg #[.bool mb,.slice ma mn mp],.int .i64 0])) WB):=
  ⟨_,_,_,_,_,_,_,_,rfl,by rw[uH.out,qw.out,qC3];exact(HK.out.kp aT).more Mx.less,by rw[uH.out,qw.out,qC4];exact(ZK.out.kp aT).more Mx.less,bN⟩
 have z8:=ae tV;have Ju:=ae EW;have ZR:Hid ((WA.cell? ⟨w.heap.size+1+1+1,0,none⟩=some (.bool false)/\WA.cell? ⟨w.heap.size+1+1+1,1,none⟩=some (.slice none 0 0))/\WA.frozen? ⟨w.heap.size+1+1+1,0,none⟩=false/\WA.frozen? ⟨w.heap.size+1+1+1,1,none⟩=false):=⟨⟨p0,p1⟩,p2,p3⟩;simp only[arr]at q0 q1;clear hk hm aN bg hHeld aT bN De Kv p0 p1 p2 p3 tV EW ak;refine aI 11 λK hK=>?_;go_simp;rw[<-z8.out];refine nx hK hSA ?_;clear hK K q0 q1 q2 q3 z8;obtain⟨⟨p0,p1⟩,p2,p3⟩:=ZR.out;refine aI 12 λK hK=>?_;go_simp;rw[<-Ju.out];refine nx hK hSB ?_;clear hK K p0 p1 p2 p3 Ju
 (refine aI 13 λK hK=>?_);go_simp;(refine fz hK ?_);clear hK K
 clear hSA hSB;go_wp2;exact aV (v:=.tuple #[.agg #[.bool kb,.slice ka kn kp],.agg #[.bool mb,.slice ma mn mp],.int .i64 0]) (by simp[results,Tryz.results74,go_sem,r0,r1,r2,r3]) rfl HF.out
def XJ(w:World)(v:Value):Nat:=match v with
 | .slice (some ⟨b,off,none⟩) n _=>nv (λi=>match w.cell? ⟨b,off+i,none⟩with|some (.int .u32 k)=>k.toNat|_=>0) n
 |_=>0
theorem qpj{M:Nat->Prop}{w:World}{v:Value}{x:Nat}(h:fC M w v x):XJ w v=x:=by
 obtain⟨n,d,⟨_,_,h3⟩,rfl⟩:=h;rcases h3 with⟨rfl,a,cap,rfl,_⟩|⟨b,off,cap,rfl,_,_,_,hc⟩
 ·unfold XJ;split
  ·rename_i hh;simp only[Value.slice.injEq]at hh;obtain⟨_,rfl,_⟩:=hh;rfl
  ·rfl
 ·unfold XJ;refine ou _ _ _ λi hi=>?_;rw[hc i hi];simp
def YT(M:Nat->Prop)(w:World)(y z:Int)(e:Ending)(w':World):Prop:=∃(b:Bool)(a:Option Addr)(n p:Nat),e=.returned (.agg #[.bool b,.slice a n p])/\dH M w' (.bool b) (.slice a n p) (Nat.gcd y.natAbs z.natAbs:Nat)/\Ext w w'
def ML(g h:Nat)(v v':Value)(w:World):Prop:=w.cell? ⟨g,1,none⟩=some v/\w.cell? ⟨h,1,none⟩=some v'
theorem ML.ext{g h:Nat}{v v':Value}{w w':World}(k:ML g h v v' w)(he:Ext w w'):ML g h v v' w':=by
 have h1:=dM _ _ k.1;have h2:=dM _ _ k.2;exact⟨by rw[he.cell h1];exact k.1,by rw[he.cell h2];exact k.2⟩
def Pf(M:Nat->Prop)(w:World)(G:Nat)(x y:Nat)(u v:Value):Prop:=ic M w u x/\ic M w v y/\Nat.gcd x y=G/\aF x+1<=1099511627776/\aF y+1<=1099511627776
theorem Pf.next{M:Nat->Prop}{w w':World}{G x y:Nat}{u v r:Value}(h:Pf M w G x y u v)(he:Ext w w')(hr:ic M w' r (x%y)):Pf M w' G y (x%y) v r:=by
 obtain⟨h1,h2,h3,h4,h5⟩:=h;refine⟨h2.ext he,hr,?_,h5,?_⟩
 ·rw[<-h3,Nat.gcd_comm x y,Nat.gcd_rec y x,Nat.gcd_comm]
 ·have:=fu (Nat.mod_le x y);omega
theorem ic.slice{M:Nat->Prop}{w:World}{v:Value}{x:Nat}(h:ic M w v x):∃a p,v=.slice a (aF x) p:=by
 obtain⟨d,h1,_⟩:=h.len;obtain⟨a,p,rfl⟩:=kW h1;exact⟨a,p,rfl⟩
theorem qjW{M:Nat->Prop}(b:Bool)(a:Option Addr)(n p:Nat)(y:Int)(b':Bool)(a':Option Addr)(n' p':Nat)(z:Int)(w:World)(hM:Mb M w)(h:dh M w (.bool b) (.slice a n p) y)(h':dh M w (.bool b') (.slice a' n' p') z)(hL:aF y.natAbs+1<=1099511627776)(si:aF z.natAbs+1<=1099511627776):
 Calls Tryz.prog 109 #[.agg #[.bool b,.slice a n p],.agg #[.bool b',.slice a' n' p']] w (YT M w y z):=by
 have aW:=(((au.aO w #[.bool b,.slice a n p] 30 2 rfl).alloc (.cells #[.bool b',.slice a' n' p'] 30)).alloc (.cells #[.bool false,.slice none 0 0] 30));have bA:=((au.aO (w.alloc (.cells #[.bool b,.slice a n p] 30)) #[.bool b',.slice a' n' p'] 30 2 rfl).alloc (.cells #[.bool false,.slice none 0 0] 30));have bJ:=au.aO ((w.alloc (.cells #[.bool b,.slice a n p] 30)).alloc (.cells #[.bool b',.slice a' n' p'] 30)) #[.bool false,.slice none 0 0] 30 2 rfl;have aL:Ext w (((w.alloc (.cells #[.bool b,.slice a n p] 30)).alloc (.cells #[.bool b',.slice a' n' p'] 30)).alloc (.cells #[.bool false,.slice none 0 0] 30)):=(((ai w).alloc _).alloc _).alloc _;simp only[World.size_alloc]at bA bJ;have bD:Mb (Mx M w.heap.size (w.heap.size+3)) (((w.alloc (.cells #[.bool b,.slice a n p] 30)).alloc (.cells #[.bool b',.slice a' n' p'] 30)).alloc (.cells #[.bool false,.slice none 0 0] 30)):=Mx.mb hM (by simp;omega) (by simp);have h0:=(h.more (M':=Mx M w.heap.size (w.heap.size+3)) (Mx.more (aA _))).ext aL;have oK:=(h'.more (M':=Mx M w.heap.size (w.heap.size+3)) (Mx.more (aA _))).ext aL;generalize fK:((w.alloc (.cells #[.bool b,.slice a n p] 30)).alloc (.cells #[.bool b',.slice a' n' p'] 30)).alloc (.cells #[.bool false,.slice none 0 0] 30)=W0 at*;have iY:=ae fK;have cK:=ae (bJ.ext (ai _).drew);have dC:=ae (aL.drew);have iE:=ae (bD.ext (ai _).drew);obtain⟨nb,x1,hb1,fo,rfl⟩:=h0.ext (ai _).drew
 obtain⟨nb',x2,gU,sI,rfl⟩:=oK.ext (ai _).drew;simp only[Value.bool.injEq]at hb1 gU;subst hb1 gU;rw[vB]at hL si;have nJ:=ae fo;have nK:=ae sI;have dU:Hid (ML w.heap.size (w.heap.size+1) (.slice a n p) (.slice a' n' p') W0.drew):=ML.ext ⟨aW.cell (i:=1) (by omega),bA.cell (i:=1) (by omega)⟩ (ai _).drew;have HG:Hid (∃G,G=Nat.gcd x1 x2):=⟨_,rfl⟩;obtain⟨G,hG⟩:=HG.out;have wW:=ae hG;clear h h' hM fK aW bA bJ aL bD h0 oK fo sI HG hG
 go_enter Tryz.func109,Tryz.ntmps109
 go_upto_region 1 with(fail)
 rw[iY.out];refine fB (ML w.heap.size (w.heap.size+1) (.slice a n p) (.slice a' n' p')) 7 dU.out λhHeld=>?_;refine bH [0,1,3,4] ?_;(iterate 4 refine bG ?_);refine bI ?_
 (refine aI 2 λK hK=>?_);go_simp;(refine(Fv _ x1 _ iE.out nJ.out).mono ?_);rintro e_ wz ⟨u,rfl,hu,ah⟩;go_wp2_with (fail);(try clear ak);(refine ny hK (hHeld.ext ah) λak=>?_);clear hK K
 (refine aI 5 λK hK=>?_);go_simp;(refine(Fv _ x2 _ (iE.out.ext ah) (nK.out.ext ah)).mono ?_);rintro e_ wz ⟨v,rfl,hv,az⟩;go_wp2_with (fail);(try clear ak);(refine ny hK (hHeld.ext (ah.trans az)) λak=>?_);clear hK K
 rename_i wz;have HI:Hid (Pf (Mx M w.heap.size (w.heap.size+3)) wz G x1 x2 u v):=⟨hu.ext az,hv,wW.out.symm,hL,si⟩;have I6:=ae (ah.trans az);clear hu hv ah az;refine bH [6] ?_;(iterate 1 refine bG ?_);refine bI ?_
 (refine aI 7 λK hK=>?_);go_simp;(refine fz hK ?_);clear hK K
 clear ak hHeld nJ nK dU hL si;go_wp2
 go_loopw [5,6] (λcu cv wr=>∃(x y:Nat),Hid (Pf (Mx M w.heap.size (w.heap.size+3)) wr G x y cu cv)/\Hid (Ext W0.drew wr)) (λ_ cv wr=>XJ wr cv)
 case atStart=>exact⟨x1,x2,HI,I6⟩
 case round=>
  clear HI I6;obtain⟨x,y,HI,HE⟩:=hrel;obtain⟨ua,up,rfl⟩:=HI.out.1.slice;obtain⟨va,vp,rfl⟩:=HI.out.2.1.slice;obtain⟨lx,Hg⟩:∃lx,lx=aF x:=⟨_,rfl⟩;obtain⟨ly,Ob⟩:∃ly,ly=aF y:=⟨_,rfl⟩;have HLX:=ae Hg;have ZG:=ae Ob;rw[<-Hg, <-Ob]at HI;rw[<-Hg, <-Ob];clear Hg Ob
  by_cases qdw:2<lx\/2<ly
  ·have qmh:(2:Int)<(lx:Int)\/(¬(2:Int)<(lx:Int)/\(2:Int)<(ly:Int)):=by omega
   by_cases h0:ly=0
   ·have hl0:((ly:Int)==0)=true:=by simp[h0]
    have qL:y=0:=qjL.1 (by rw[<-ZG.out];exact h0)
    have LX:Hid (x=G):=by
     have:=HI.out.2.2.1;rw[qL,Nat.gcd_zero_right]at this;exact this
    have aJ:=ae (Ov false _ x wr (iE.out.ext HE.out) HI.out.1.dB);clear h0 qL qdw;rcases qmh with h1|⟨h1,h2⟩
    all_goals
     go_wp2_with (fail);refine aJ.out.mono ?_;rintro e wa ⟨k0,k1,rfl,hk,tX⟩;obtain⟨kb,ka,kn,kp,rfl,rfl⟩:=hk.form;obtain⟨⟨q0,q1,f0,f1⟩,⟨r0,r1⟩,aT,bN⟩:=mD (M':=Mx M w.heap.size (w.heap.size+3)) (w:=w) (.bool kb) (.slice ka kn kp) (cK.out.ext (HE.out.trans tX)) (Mx.at (by omega)) (by omega) ((dC.out.trans HE.out).trans tX)
     have HF:Hid (YT M w (bO b x1) (bO b' x2) (.returned (.agg #[.bool kb,.slice ka kn kp])) ((wa.setCell ⟨w.heap.size+1+1,0,none⟩ (.bool kb)).setCell ⟨w.heap.size+1+1,1,none⟩ (.slice ka kn kp))):=
      ⟨_,_,_,_,rfl,by rw[vB,vB, <-wW.out, <-LX.out];exact(hk.kp aT).more Mx.less,bN⟩
     simp only[arr]at q0 q1;clear hk aT bN tX;go_wp2;exact aV (v:=.agg #[.bool kb,.slice ka kn kp]) (by simp[results,Tryz.results109,go_sem,r0,r1]) rfl HF.out
   ·have hl0:((ly:Int)==0)=false:=by simp;omega
    have qL:y≠0:=λe=>h0 (by rw[ZG.out,e];rfl);have hlt:x%y<y:=Nat.mod_lt _ (by omega);have aJ:=ae (qjU _ _ x y wr (iE.out.ext HE.out) HI.out.1.dB HI.out.2.1.dB qL HI.out.2.2.2.1);have HN:=ae (qpj HI.out.2.1.dB);clear qdw h0 qL;rcases qmh with h1|⟨h1,h2⟩
    all_goals
     go_wp2_with (fail);refine aJ.out.mono ?_;rintro e wa ⟨q,r,rfl,hq,hr,tX⟩;have wX:=ae (HI.out.next tX hr);have BP:=ae (qpj hr.dB);have aZ:=ae (HE.out.trans tX);clear hq hr tX;go_wp2
     go_roundw
     case rel=>exact⟨y,x%y,wX,aZ⟩
     case measure=>rw[HN.out,BP.out];exact hlt
  ·have h1:¬(2:Int)<(lx:Int):=by omega
   have h2:¬(2:Int)<(ly:Int):=by omega
   have Bh:x<18446744073709551616:=(qC x 2).1 (by rw[<-HLX.out];omega);have wK:y<18446744073709551616:=(qC y 2).1 (by rw[<-ZG.out];omega);have aJ:=ae (qpr _ x wr HI.out.1.dB Bh);clear qdw;go_wp2_with (fail);refine aJ.out.mono ?_;rintro e wa ⟨rfl,tX⟩;have fP:=ae (qpr _ y wa (HI.out.2.1.dB.ext tX) wK);have HEa:=ae (HE.out.trans tX);clear aJ tX;go_wp2_with (fail);refine fP.out.mono ?_;rintro e wb ⟨rfl,NU⟩;have HEb:=ae (HEa.out.trans NU);have I8:=ae HI.out.2.2.1;clear fP NU h1 h2;go_wp2
   go_loopw [9,11] (λcm cn wr=>∃(m k:Nat),cm=.int .u64 m/\cn=.int .u64 k/\m<18446744073709551616/\k<18446744073709551616/\Hid (Nat.gcd m k=G)/\Hid (Ext W0.drew wr)) (λ_ cn _=>(intOf cn).toNat)
   case atStart=>exact⟨x,y,rfl,rfl,Bh,wK,I8,HEb⟩
   case round=>
    clear I8 HEb HEa;obtain⟨m,k,rfl,rfl,hm,hk,I8,Eg⟩:=hrel
    by_cases h0:k=0
    ·have iZ:((k:Int)==0)=true:=by simp[h0]
     have jm:Hid (m=G):=by
      have:=I8.out;rw[h0,Nat.gcd_zero_right]at this;exact this
     have oD:=ae (Tk (M:=Mx M w.heap.size (w.heap.size+3)) m wr (iE.out.ext Eg.out) hm);clear h0 I8 HI;go_wp2_with (fail);refine oD.out.mono ?_;rintro e wc ⟨gu,rfl,hgu,hec⟩;have ym:=ae (Ov false _ m wc ((iE.out.ext Eg.out).ext hec) hgu.dB);have I7:=ae (Eg.out.trans hec);clear oD hgu hec;go_wp2_with (fail);refine ym.out.mono ?_;rintro e wd ⟨k0,k1,rfl,kU,uV⟩;obtain⟨kb,ka,kn,kp,rfl,rfl⟩:=kU.form;obtain⟨⟨q0,q1,f0,f1⟩,⟨r0,r1⟩,aT,bN⟩:=mD (M':=Mx M w.heap.size (w.heap.size+3)) (w:=w) (.bool kb) (.slice ka kn kp) (cK.out.ext (I7.out.trans uV)) (Mx.at (by omega)) (by omega) ((dC.out.trans I7.out).trans uV)
     have HF:Hid (YT M w (bO b x1) (bO b' x2) (.returned (.agg #[.bool kb,.slice ka kn kp])) ((wd.setCell ⟨w.heap.size+1+1,0,none⟩ (.bool kb)).setCell ⟨w.heap.size+1+1,1,none⟩ (.slice ka kn kp))):=
      ⟨_,_,_,_,rfl,by rw[vB,vB, <-wW.out, <-jm.out];exact(kU.kp aT).more Mx.less,bN⟩
     simp only[arr]at q0 q1;clear kU aT bN uV ym;go_wp2;exact aV (v:=.agg #[.bool kb,.slice ka kn kp]) (by simp[results,Tryz.results109,go_sem,r0,r1]) rfl HF.out
    ·have iZ:((k:Int)==0)=false:=by simp;omega
     have xQ:IntKind.u64.signed=false:=rfl;obtain⟨r,hr⟩:∃r,r=m%k:=⟨_,rfl⟩
     have hrl:r<k:=by rw[hr];exact Nat.mod_lt _ (by omega)
     have mH:¬(k:Int)=0:=by omega
     have e1:(m:Int).tmod (k:Int)=r:=by rw[Int.tmod_eq_emod_of_nonneg (by omega),hr];rfl
     have e2:(m:Int)%(k:Int)=r:=by rw[hr];rfl
     have e3:IntKind.u64.wrap (r:Int)=r:=wrap_u64 r (by omega)
     have HGN:Hid (Nat.gcd k r=G):=by
      have:=I8.out;rw[Nat.gcd_comm,Nat.gcd_rec, <-hr,Nat.gcd_comm]at this;exact this
     clear hr I8 HI
     go_upto_region 10 with(fail)
     refine fB EC 5 trivial λhHeld=>?_;refine bH [0,1,2,3,4] ?_;(iterate 5 refine bG ?_);refine bI ?_
     (refine aI 5 λK hK=>?_);go_simp;(refine fz hK ?_);clear hK K
     go_wp2
     go_roundw
     case rel=>exact⟨k,r,rfl,rfl,hk,by omega,HGN,Eg.out.drew⟩
     case measure=>simp[intOf];omega
abbrev zI:Array Value:= #[.bool false,.slice none 0 0]
structure I4 where
 b:Bool
 a:Option Addr
 n:Nat
 p:Nat
abbrev iA(x:I4):Array Value:= #[.bool x.b,.slice x.a x.n x.p]
def C2(g:Nat)(x:I4)(w:World):Prop:=w.cell? ⟨g,0,none⟩=some (.bool x.b)/\w.cell? ⟨g,1,none⟩=some (.slice x.a x.n x.p)
theorem C2.ext{g:Nat}{x:I4}{w w':World}(k:C2 g x w)(he:Ext w w'):C2 g x w':=by
 have h1:=dM _ _ k.1;exact⟨by rw[he.cell h1];exact k.1,by rw[he.cell h1];exact k.2⟩
end Go.Proofs.YtaafefeafonhdaaGreat
namespace Go.Proofs.YtaafefeafonhdaaGreat
def rb(n:Nat)(q:Rat):Prop:=aF q.num.natAbs<=n/\aF q.den<=n
theorem rb.mono{n m:Nat}{q:Rat}(h:rb n q)(hm:n<=m):rb m q:=⟨aK h.1 hm,aK h.2 hm⟩
theorem qA6(z:Int)(d:Nat):(mkRat z d).num.natAbs<=z.natAbs:=by
 rw[Rat.num_mkRat]
 split
 ·simp
 ·exact Int.natAbs_ediv_le_natAbs _ _
theorem quV(z:Int)(d:Nat)(hd:d≠0):(mkRat z d).den<=d:=by
 rw[Rat.den_mkRat,aj hd];exact Nat.div_le_self _ _
theorem VD:aF 1=1:=rfl
theorem qfx{n:Nat}{z:Int}{d:Nat}(h1:aF z.natAbs<=n)(h2:aF d<=n)(hn:1<=n):rb n (mkRat z d):=by
 refine⟨aK (fu (qA6 z d)) h1,?_⟩
 by_cases hd:d=0
 ·rw[Rat.den_mkRat,av hd,VD];exact hn
 ·exact aK (fu (quV z d hd)) h2
theorem rb.pos{n:Nat}{q:Rat}(h:rb n q):1<=n:=aK (QT q.den_nz) h.2
theorem qfy{n m:Nat}{p q:Rat}(h:rb n p)(k:rb m q):rb (n+m) (p*q):=by
 rw[Rat.mul_def'];have h1:=nN p.num.natAbs q.num.natAbs;have h2:=nN p.den q.den;refine qfx ?_ ?_ (by have:=h.pos;omega)
 ·rw[Int.natAbs_mul];have:=h.1;have:=k.1;omega
 ·have:=h.2;have:=k.2;omega
theorem qve(x y:Int):aF (x+y).natAbs<=max (aF x.natAbs) (aF y.natAbs)+1:=
 aK (fu (Int.natAbs_add_le x y)) (Gt _ _)
theorem qqE{n m:Nat}{p q:Rat}(h:rb n p)(k:rb m q):rb (n+m+1) (p+q):=by
 rw[Rat.add_def'];have h1:=nN p.num.natAbs q.den;have h2:=nN q.num.natAbs p.den;have h3:=nN p.den q.den;have h4:=qve (p.num*q.den) (q.num*p.den);rw[Int.natAbs_mul,Int.natAbs_mul,Int.natAbs_natCast,Int.natAbs_natCast]at h4;have:=h.1;have:=k.1;have:=h.2;have:=k.2;exact qfx (by omega) (by omega) (by omega)
theorem qqF(z:Int):rb (aF z.natAbs+1) (z:Rat):=by
 refine⟨?_,?_⟩
 ·rw[Rat.num_intCast];omega
 ·rw[Rat.den_intCast,VD];omega
theorem Lu:rb 1 (0:Rat):=⟨by rw[Rat.zero_num];decide,by rw[Rat.zero_den,VD];exact aA _⟩
def mU(a:Nat->Rat)(m:Mo):Rat:=a 0^m.a.toNat*a 1^m.b.toNat*a 2^m.c.toNat*a 3^m.d.toNat
def dR(a:Nat->Rat):List Tm->Rat
 |[]=>0
 |t::l=>(t.1:Rat)*mU a t.2+dR a l
theorem qka(a:Nat->Rat)(l r:List Tm):dR a (l++r)=dR a l+dR a r:=by
 induction l with
 |nil=>simp[dR,Rat.zero_add]
 |cons t l ih=>simp only[List.cons_append,dR,ih,Rat.add_assoc]
theorem Yb(x:Rat)(n m:Nat):x^(n+m)=x^n*x^m:=by
 induction m with
 |zero=>simp
 |succ m ih=>rw[<-Nat.add_assoc,Rat.pow_succ,ih,Rat.pow_succ,Rat.mul_assoc]
theorem qvX(a:Nat->Rat):mU a Mo.zero=1:=by
 simp[mU,Mo.zero]
theorem qvU(a:Nat->Rat)(x y:Mo)(hx:x.nn=true)(hy:y.nn=true):mU a (Mo.add x y)=mU a x*mU a y:=by
 obtain⟨x1,x2,x3,x4⟩:=(Mo.uZ x).1 hx;obtain⟨y1,y2,y3,y4⟩:=(Mo.uZ y).1 hy;unfold mU Mo.add;simp only;rw[Int.toNat_add x1 y1,Int.toNat_add x2 y2,Int.toNat_add x3 y3,Int.toNat_add x4 y4,Yb,Yb,Yb,Yb];generalize a 0^x.a.toNat=p1;generalize a 0^y.a.toNat=q1;generalize a 1^x.b.toNat=p2;generalize a 1^y.b.toNat=q2;generalize a 2^x.c.toNat=p3;generalize a 2^y.c.toNat=q3;generalize a 3^x.d.toNat=p4;generalize a 3^y.d.toNat=q4
 grind
theorem qvW(a:Nat->Rat)(L i:Nat)(h1:1<=L)(h4:L<=4):mU a (xp L (i:Int))=a (L-1)^i:=by
 rcases Td h1 h4 with rfl|rfl|rfl|rfl<;>simp[mU,xp]
theorem qET(L i:Nat):(xp L (i:Int)).nn=true:=by
 rw[Mo.uZ];unfold xp;simp only;refine⟨?_,?_,?_,?_⟩<;>split<;>omega
theorem qv1(a:Nat->Rat)(k:Mo)(hk:k.nn=true)(l:List Tm)(hl:∀t∈l,t.2.nn=true):dR a (shift k l)=mU a k*dR a l:=by
 induction l with
 |nil=>show dR a []=_;simp[dR]
 |cons t l ih=>
  show(t.1:Rat)*mU a (Mo.add t.2 k)+dR a (shift k l)=_;rw[ih λs hs=>hl s (List.mem_cons_of_mem _ hs),qvU a _ _ (hl t (List.mem_cons_self ..)) hk];simp only[dR];generalize mU a t.2=p;generalize mU a k=q;generalize dR a l=r
  grind
def ps(x:Rat)(P:Nat->Rat):Nat->Rat
 |0=>0
 |n+1=>ps x P n+x^n*P n
def hv(x:Rat)(P:Nat->Rat)(n:Nat):Nat->Rat
 |0=>0
 |j+1=>hv x P n j*x+P (n-1-j)
theorem qoa(x:Rat)(P:Nat->Rat)(n:Nat):∀j,j<=n->hv x P n j*x^(n-j)+ps x P (n-j)=ps x P n
 |0,_=>by simp[hv,Rat.zero_add]
 |j+1,h=>by
  have ih:=qoa x P n j (by omega);obtain⟨m,hm⟩:∃m,n-j=m+1:=⟨n-j-1,by omega⟩;rw[hm]at ih;rw[show n-(j+1)=m by omega];simp only[hv];rw[show n-1-j=m by omega];simp only[ps]at ih;rw[Rat.pow_succ]at ih;rw[<-ih];generalize hv x P n j=p;generalize x^m=q;generalize P m=r;generalize ps x P m=s
  grind
theorem qn9(x:Rat)(P:Nat->Rat)(n:Nat):hv x P n n=ps x P n:=by
 have:=qoa x P n n (aA _);rw[Nat.sub_self]at this;simpa[ps,Rat.add_zero]using this
theorem qB1(P:Nat->Rat)(n:Nat):ps 0 P (n+1)=P 0:=by
 induction n with
 |zero=>simp[ps,Rat.zero_add]
 |succ n ih=>
  rw[ps,ih,Rat.pow_succ];simp[Rat.add_zero]
theorem qv0(a:Nat->Rat)(L n:Nat)(P:Nat->List Tm)(h1:1<=L)(h4:L<=4)(hP:∀i,i<n->∀t∈P i,t.2.nn=true):dR a (aM L n P)=ps (a (L-1)) (λi=>dR a (P i)) n:=by
 induction n with
 |zero=>rfl
 |succ n ih=>
  rw[gF,qka,ih λi hi=>hP i (by omega),qv1 a _ (qET L n) _ (hP n (by omega)),qvW a L n h1 h4];rfl
theorem qkc(a:Nat->Rat)(z:Int):dR a [(z,Mo.zero)]=(z:Rat):=by
 simp[dR,qvX,Rat.add_zero]
theorem qff(f:Nat->Nat){n m:Nat}(h:n<=m):pW f n<=pW f m:=by
 obtain⟨k,rfl⟩:∃k,m=n+k:=⟨m-n,by omega⟩;clear h
 induction k with
 |zero=>exact aA _
 |succ k ih=>rw[<-Nat.add_assoc];simp only[pW];omega
theorem qA4(f:Nat->Nat){n i:Nat}(h:i<n):f i<=pW f n:=by
 have:=qff f h;simp only[pW]at this;omega
theorem qfw{A:Nat}{x:Rat}(hx:rb A x)(P:Nat->Rat)(f:Nat->Nat)(n:Nat)(hP:∀i,i<n->rb (f i) (P i)):∀j,j<=n->rb (1+pW (λi=>f i+A+1) n-pW (λi=>f i+A+1) (n-j)) (hv x P n j)
 |0,_=>by
  refine Lu.mono ?_;rw[Nat.sub_zero];omega
 |j+1,h=>by
  have ih:=qfw hx P f n hP j (by omega);obtain⟨m,hm⟩:∃m,n-j=m+1:=⟨n-j-1,by omega⟩;rw[hm]at ih;rw[show n-(j+1)=m by omega];simp only[hv];rw[show n-1-j=m by omega];have h1:=hP m (by omega);have h2:=qff (λi=>f i+A+1) (show m+1<=n by omega);simp only[pW]at ih h2;refine(qqE (qfy ih hx) h1).mono ?_;omega
theorem qbV(a:Nat->Rat){d:Nat}{t:RT (d+1)}(h1:1<=t.1)(h4:t.1<=4):dR a (terms (d+1) t)=ps (a (t.1.toNat-1)) (λi=>dR a (terms d (t.2.2.2 i))) t.2.2.1:=by
 rw[vC h1 h4,qv0 a _ _ _ (by omega) (by omega) λi _=>TK d _]
theorem qfv{A:Nat}{a:Nat->Rat}(ha:∀i,i<4->rb A (a i)):∀(d:Nat)(t:RT d),rb (jD A d t) (dR a (terms d t))
 |0,_=>Lu
 |d+1,t=>by
  by_cases h1:t.1<=0
  ·unfold jD;rw[rM h1,av h1,qkc];exact qqF _
  ·by_cases h2:4<t.1
   ·unfold jD terms;rw[aj h1,av h2,aj h1,av h2];exact Lu
   ·rw[qbV a (by omega) (by omega), <-qn9];unfold jD;rw[aj h1,aj h2];have:=qfw (ha (t.1.toNat-1) (by omega)) (λi=>dR a (terms d (t.2.2.2 i))) (λi=>jD A d (t.2.2.2 i)) t.2.2.1 (λi _=>qfv ha d _) t.2.2.1 (aA _);refine this.mono ?_;omega
theorem qpK(f:Nat->Nat)(c:Nat):∀n,(∀i,i<n->f i<=c)->pW f n<=n*c
 |0,_=>bu _
 |n+1,h=>by
  have h1:=qpK f c n λi hi=>h i (by omega);have h2:=h n (by omega);simp only[pW,Nat.add_mul,Nat.one_mul];omega
def um(A B C:Nat):Nat->Nat
 |0=>C+1
 |d+1=>1+(B+1)*(um A B C d+A+1)
theorem qrn(A B C:Nat):∀d,C+1<=um A B C d
 |0=>aA _
 |d+1=>by
  have:=qrn A B C d;simp only[um,Nat.add_mul,Nat.one_mul];omega
theorem qDW(A B C d:Nat):um A B C d<=um A B C (d+1):=by
 simp only[um,Nat.add_mul,Nat.one_mul];omega
theorem qrm(A B C:Nat){d e:Nat}(h:d<=e):um A B C d<=um A B C e:=by
 obtain⟨k,rfl⟩:∃k,e=d+k:=⟨e-d,by omega⟩;clear h
 induction k with
 |zero=>exact aA _
 |succ k ih=>exact aK ih (qDW A B C (d+k))
theorem qjn(A B C:Nat):∀(d:Nat)(t:RT d),fA d t=true->zw d t->bE B (terms d t)->aF (aB (terms d t))<=C->jD A d t<=um A B C (jY d t).toNat
 |0,_,h,_,_,_=>by unfold jD;exact aK (by omega) (qrn A B C _)
 |d+1,t,h,ho,hB,hC=>by
  show _<=um A B C t.1.toNat
  by_cases hl:t.1=0
  ·unfold jD;rw[av (by omega),hl];rw[rM (by omega)]at hC;simp only[aB,Nat.add_zero]at hC;show _<=C+1;omega
  ·obtain⟨g1,g2,g3,g4,g5,g6⟩:=uN h hl;rw[vC g1.1 g1.2]at hB hC;obtain⟨D,hD⟩:∃D:Nat,t.1.toNat=D+1:=⟨t.1.toNat-1,by omega⟩;rw[hD]at hB hC⊢
   have bZ:∀i,i<t.2.2.1->dV D (terms d (t.2.2.2 i)):=λi hi=>by
    have:=uY h hl i hi
    rwa[hD,Nat.add_sub_cancel]at this
   cases d with
   |zero=>
    have:=(g5 0 (by omega)).2;simp[fA]at this
   |succ d=>
    have fO:¬af (terms (d+1) (t.2.2.2 (t.2.2.1-1))) []:=λhs=>by
     obtain⟨m,hm⟩:=xz _ _ (g5 (t.2.2.1-1) (by omega)).2 (ho.2 _ (by omega)) g6;exact hm (hs m)
    obtain⟨h1,h2⟩:=Ag (by omega) (by omega) bZ fO hB;unfold jD;rw[aj (by omega),aj (by omega)]
    have hk:∀i,i<t.2.2.1->jD A (d+1) (t.2.2.2 i)+A+1<=um A B C D+A+1:=λi hi=>by
     have h3:=qjn A B C (d+1) (t.2.2.2 i) (g5 i hi).2 (ho.2 i hi) (h2 i hi) (aK (fu (DR (D+1) t.2.2.1 (λi=>terms (d+1) (t.2.2.2 i)) i hi)) hC);have h4:=qrm A B C (d:=(jY (d+1) (t.2.2.2 i)).toNat) (e:=D) (by have:=(g5 i hi).1;omega);omega
    have h5:=qpK _ (um A B C D+A+1) t.2.2.1 hk;have h6:t.2.2.1*(um A B C D+A+1)<=(B+1)*(um A B C D+A+1):=fq _ (by omega);simp only[um];omega
theorem qvZ(q:Nat->Rat)(c:Int)(m:Mo)(l:List Tm):dR q (ins c m l)=(c:Rat)*mU q m+dR q l:=by
 induction l with
 |nil=>
  simp only[ins];split
  ·rename_i h;subst h;simp[dR,Rat.add_zero]
  ·simp[dR]
 |cons s r ih=>
  simp only[ins]
  split
  ·rename_i h1;subst h1;have e:((s.1+c:Int):Rat)=(s.1:Rat)+(c:Rat):=Rat.intCast_add _ _
   split
   ·rename_i h2;rw[h2]at e;simp only[dR];generalize mU q s.2=p;generalize dR q r=u
    have e2:(0:Rat)=(s.1:Rat)+(c:Rat):=by rw[<-e];rfl
    have e3:(0:Rat)=((s.1:Rat)+(c:Rat))*p:=by rw[<-e2,Rat.zero_mul]
    grind
   ·simp only[dR];rw[e];generalize mU q s.2=p;generalize dR q r=u
    grind
  ·split
   ·split
    ·rename_i h;subst h;simp[Rat.zero_add]
    ·simp only[dR]
   ·simp only[dR,ih];generalize dR q r=u;generalize (s.1:Rat)*mU q s.2=v;generalize (c:Rat)*mU q m=x
    grind
theorem qkb(q:Nat->Rat):∀l:List Tm,(∀t∈l,t.2.nn=true)->dR q (norm l)=dR q l
 |[],_=>rfl
 |t::l,h=>by
  have ih:=qkb q l λs hs=>h s (List.mem_cons_of_mem _ hs);simp only[norm];rw[av (h t List.mem_cons_self),qvZ,ih];rfl
end Go.Proofs.YtaafefeafonhdaaGreat
