/- Nb -/
import Derived.Test.YtmcfpnmoklnhoaaGreatNa
import Derived.Scope
set_option linter.unusedVariables false
set_option maxRecDepth 100000
set_option maxHeartbeats 400000000
set_option linter.unusedSimpArgs false
namespace Go.Proofs.YtmcfpnmoklnhoaaGreat
open Go.RowKit
theorem qo0{U:Nat->Nat}{T i k:Nat}(hU:nv U T<4294967296^k)(hi:k<=i)(hT:i<T):U i=0:=by
 refine eF λhc=>?_;have h1:=Tj U i hc
 have h2:nv U (i+1)<=nv U T:=by
  obtain⟨r,rfl⟩:∃r,T=i+1+r:=⟨T-(i+1),by omega⟩;have:=yh U (i+1) r;omega
 have h3:4294967296^k<=4294967296^i:=Nat.pow_le_pow_right (by decide) hi;omega
theorem qzN{U:Nat->Nat}{T j m:Nat}(hT:j+m<=T)(hU:nv U T<4294967296^(j+m)):nv U T=nv U j+4294967296^j*nv (λi=>U (j+i)) m:=by
 obtain⟨r,rfl⟩:∃r,T=j+m+r:=⟨T-(j+m),by omega⟩;rw[yh U (j+m) r,pE (λi=>U (j+m+i)) (λ_=>0) r (λi hi=>qo0 hU (by omega) (by omega)),OE,Nat.mul_zero,Nat.add_zero,yh]
theorem qBY(N a b c x:Nat):N+c*x+b*(x*4294967296)+a*(x*4294967296*4294967296)=((a*4294967296+b)*4294967296+c)*x+N:=by
 have e1:b*(x*4294967296)=b*x*4294967296:=(Nat.mul_assoc _ _ _).symm
 have e2:a*(x*4294967296*4294967296)=a*x*4294967296*4294967296:=by rw[<-Nat.mul_assoc, <-Nat.mul_assoc]
 have e3:((a*4294967296+b)*4294967296+c)*x=a*x*4294967296*4294967296+b*x*4294967296+c*x:=by
  rw[Nat.add_mul,Nat.mul_right_comm,Nat.add_mul (a*4294967296),Nat.mul_right_comm a,Nat.add_mul (a*x*4294967296)]
 omega
theorem qzP(p:Nat->Nat)(n:Nat)(hn:2<=n):nv p (n+1)=((p n*4294967296+p (n-1))*4294967296+p (n-2))*4294967296^(n-2)+nv p (n-2):=by
 obtain⟨m,rfl⟩:∃m,n=m+2:=⟨n-2,by omega⟩;rw[sG,sG,sG];show nv p m+p m*4294967296^m+p (m+1)*4294967296^(m+1)+p (m+2)*4294967296^(m+2)=((p (m+2)*4294967296+p (m+1))*4294967296+p m)*4294967296^m+nv p m;rw[Nat.pow_succ 4294967296 (m+1),Nat.pow_succ];exact qBY _ _ _ _ _
theorem qzQ(p:Nat->Nat)(n:Nat)(hn:2<=n):nv p n=(p (n-1)*4294967296+p (n-2))*4294967296^(n-2)+nv p (n-2):=by
 obtain⟨m,rfl⟩:∃m,n=m+2:=⟨n-2,by omega⟩;rw[sG,sG];show nv p m+p m*4294967296^m+p (m+1)*4294967296^(m+1)=(p (m+1)*4294967296+p m)*4294967296^m+nv p m;rw[Nat.pow_succ,Nat.add_mul,Nat.mul_comm (4294967296^m) 4294967296, <-Nat.mul_assoc];omega
structure wh(X Y T m k:Nat)(U Q:Nat->Nat):Prop where
 eq:nv U T+Y*(4294967296^k*nv (λt=>Q (k+t)) (m-k))=X
 lt:nv U T<Y*4294967296^k
theorem wh.congr{X Y T m k:Nat}{U Q Q':Nat->Nat}(h:wh X Y T m k U Q)(hq:∀i,k<=i->Q' i=Q i):wh X Y T m k U Q':=
 ⟨by rw[pE (λt=>Q' (k+t)) (λt=>Q (k+t)) _ (λi _=>hq _ (by omega))];exact h.eq,h.lt⟩
theorem wh.part{X Y T m j n:Nat}{U Q:Nat->Nat}(h:wh X Y T m (j+1) U Q)(hY:Y<4294967296^n)(hT:j+(n+1)<=T):nv U T=nv U j+4294967296^j*nv (λi=>U (j+i)) (n+1)/\nv (λi=>U (j+i)) (n+1)<Y*4294967296:=by
 have h1:nv U T<4294967296^(j+(n+1)):=by
  refine dH h.lt ?_;rw[show(4294967296:Nat)^(j+(n+1))=4294967296^n*4294967296^(j+1) by rw[<-Nat.pow_add];congr 1;omega];exact eB _ (Nat.le_of_lt hY)
 have h2:=qzN hT h1;refine⟨h2,?_⟩;have h3:=h.lt;rw[h2,Nat.pow_succ, <-Nat.mul_assoc,Nat.mul_right_comm]at h3
 have h4:4294967296^j*nv (λi=>U (j+i)) (n+1)<4294967296^j*(Y*4294967296):=by
  rw[Nat.mul_comm (4294967296^j) (Y*4294967296)];omega
 exact Nat.lt_of_mul_lt_mul_left h4
theorem wh.next{X Y T m j n q R:Nat}{U U' Q:Nat->Nat}(h:wh X Y T m (j+1) U Q)(hY:Y<4294967296^n)(hT:j+(n+1)<=T)(hj:j<m)(hq:Q j=q)(hU:∀i,i<j\/j+(n+1)<=i->U' i=U i)(hR:nv (λi=>U' (j+i)) (n+1)=R)(he:R+q*Y=nv (λi=>U (j+i)) (n+1))(hlt:R<Y)(hd:∀i,i<T->U i<4294967296):wh X Y T m j U' Q:=by
 obtain⟨h1,h2⟩:=h.part hY hT
 have hz:∀i,j+(n+1)<=i->i<T->U i=0:=λi h3 h4=>by
  have h5:nv U T<4294967296^(j+(n+1)):=by
   refine dH h.lt ?_;rw[show(4294967296:Nat)^(j+(n+1))=4294967296^n*4294967296^(j+1) by rw[<-Nat.pow_add];congr 1;omega];exact eB _ (Nat.le_of_lt hY)
  exact qo0 h5 h3 h4
 have hv:nv U' T=nv U j+4294967296^j*R:=by
  obtain⟨r,rfl⟩:∃r,T=j+(n+1)+r:=⟨T-(j+(n+1)),by omega⟩;rw[yh U' (j+(n+1)) r,pE (λi=>U' (j+(n+1)+i)) (λ_=>0) r (λi hi=>by rw[hU _ (.inr (by omega))];exact hz _ (by omega) (by omega)),OE,Nat.mul_zero,Nat.add_zero,yh,hR,pE U' U j λi hi=>hU i (.inl hi)]
 have hl:nv U j<4294967296^j:=qQ U j λi hi=>hd i (by omega);refine⟨?_,?_⟩
 ·rw[<-h.eq,hv,h1, <-he];obtain⟨r,hr⟩:∃r,m-j=r+1:=⟨m-j-1,by omega⟩;rw[hr,Tk,show m-(j+1)=r by omega,pE (λi=>Q (j+(i+1))) (λt=>Q (j+1+t)) r (λi _=>by rw[show j+(i+1)=j+1+i by omega])];show _+Y*(4294967296^j*(Q (j+0)+_))=_;rw[Nat.add_zero,hq,Nat.pow_succ];generalize nv (λt=>Q (j+1+t)) r=z;generalize 4294967296^j=x;rw[Nat.mul_add x,Nat.mul_add Y,Nat.mul_add x];rw[show Y*(x*q)=x*(q*Y) by rw[Nat.mul_left_comm,Nat.mul_comm Y],show x*(4294967296*z)=x*4294967296*z from(Nat.mul_assoc _ _ _).symm];omega
 ·rw[hv,Nat.mul_comm Y];have:4294967296^j*(R+1)<=4294967296^j*Y:=Nat.mul_le_mul_left _ hlt;rw[Nat.mul_add,Nat.mul_one]at this;omega
theorem quk{P Y q R:Nat}{b:Bool}{x:Nat}(hY:0<Y)(h1:P/Y<=q)(h2:q<=P/Y+1)(he:R+q*Y=P+(if b then 1 else 0)*x)(hR:R<x):(b=false->R+q*Y=P/\R<Y)/\(b=true->P<q*Y/\0<q/\P-(q-1)*Y<Y/\(q-1)*Y<=P):=by
 obtain⟨h3,h4⟩:=qul hY h1 h2;have hdm:=Nat.div_add_mod' P Y;have Ob:=Nat.mod_lt P hY;generalize P/Y=q0 at*;generalize P%Y=r0 at*;refine⟨λhb=>?_,λhb=>?_⟩
 ·subst hb;simp only[Bool.false_eq_true,if_false,Nat.zero_mul,Nat.add_zero]at he;have h5:=h3 (by omega);rw[h5]at he;exact⟨by rw[h5];exact he,by omega⟩
 ·subst hb;simp only[if_true,Nat.one_mul]at he
  have h5:P<q*Y:=by omega
  have h6:=h4 h5;rw[h6,Nat.add_sub_cancel];exact⟨by rw[<-h6];exact h5,by omega,by omega,by omega⟩
theorem qui{P Y q R R2 k x:Nat}(he:R+q*Y=P+x)(ha:R2+k*x=R+Y)(hq:0<q)(Fj:R2<x)(hle:(q-1)*Y<=P)(hlt:P-(q-1)*Y<Y)(hYx:Y<=x):R2+(q-1)*Y=P/\R2<Y:=by
 obtain⟨p,rfl⟩:∃p,q=p+1:=⟨q-1,by omega⟩;rw[Nat.add_sub_cancel]at hle hlt⊢;rw[Nat.add_mul,Nat.one_mul]at he
 have h1:R2+k*x+p*Y=P+x:=by omega
 have hk:k=1:=by
  rcases Nat.lt_or_ge k 1 with h|h
  ·have:k=0:=by omega
   subst this;omega
  ·rcases Nat.lt_or_ge 1 k with h2|h2
   ·have:2*x<=k*x:=eB _ h2;omega
   ·omega
 subst hk;omega
theorem quj{x y s Q R:Nat}(hy:0<y)(h:R+y*2^s*Q=x*2^s)(hR:R<y*2^s):Q=x/y/\R/2^s=x%y:=by
 have hp:0<2^s:=Nat.pow_pos (by decide)
 have h1:x*2^s/(y*2^s)=Q:=by
  rw[<-h,Nat.add_mul_div_left _ _ (Nat.mul_pos hy hp),Nat.div_eq_of_lt hR,Nat.zero_add]
 have h2:x*2^s%(y*2^s)=R:=by
  rw[<-h,Nat.add_mul_mod_self_left,Nat.mod_eq_of_lt hR]
 rw[Nat.mul_div_mul_right _ _ hp]at h1;rw[Nat.mul_mod_mul_right]at h2;exact⟨h1.symm,by rw[<-h2,Nat.mul_div_cancel _ hp]⟩
theorem qux{V:Nat->Nat}{n s:Nat}(hn:0<n)(hV:∀i,i<n->V i<4294967296)(ht:V (n-1)≠0)(hs:s<32)(hl:V (n-1)*2^s<4294967296):aH (nv V n*2^s)=n:=by
 obtain⟨m,rfl⟩:∃m,n=m+1:=⟨n-1,by omega⟩;rw[Nat.add_sub_cancel]at ht hl;have hp:0<2^s:=Nat.pow_pos (by decide);refine Nat.le_antisymm ((lZ _ _).2 ?_) ?_
 ·obtain⟨t,htt⟩:∃t,32=s+t:=⟨32-s,by omega⟩
  have e0:(4294967296:Nat)=2^t*2^s:=by rw[<-Nat.pow_add,Nat.add_comm, <-htt]
  have h1:V m<2^t:=by
   rw[e0]at hl;exact Nat.lt_of_mul_lt_mul_right hl
  have h2:nv V (m+1)<(V m+1)*4294967296^m:=by
   have:=qQ V m (λi hi=>hV i (by omega));rw[sG,Nat.add_mul,Nat.one_mul];omega
  have h3:nv V (m+1)*2^s<2^t*4294967296^m*2^s:=
   Nat.mul_lt_mul_of_pos_right (dH h2 (eB _ h1)) hp
  rw[show 2^t*4294967296^m*2^s=4294967296^(m+1) by rw[Nat.mul_right_comm, <-e0,Nat.pow_succ,Nat.mul_comm]]at h3;exact h3
 ·have h1:aH (nv V (m+1))=m+1:=VT V (m+1) hV (.inr ht);have h2:nv V (m+1)<=nv V (m+1)*2^s:=Nat.le_mul_of_pos_right _ hp;have:=jB h2;omega
def Js(M:Nat->Prop)(w:World)(x y:Nat)(e:Ending)(w':World):Prop:=∃q r,e=.returned (.tuple #[q,r])/\iX M w' q (x/y)/\iX M w' r (x%y)/\Ext w w'
theorem qup{M:Nat->Prop}(v v':Value)(x y:Nat)(w:World)(hM:Mb M w)(h:gP M w v x)(h':gP M w v' y)(hlt:x<y):
 Calls Tryz.prog 162 #[v,v'] w (Js M w x y):=by
 have aW:=ae (FW v' y w hM h')
 go_enter Tryz.func162,Tryz.ntmps162
 go_wp2;refine wp_scope_straight ?_;go_wp2_with (fail);refine aW.out.mono ?_;rintro e w1 ⟨u1,rfl,hu1,az⟩;have bf:=Ld v u1 x y w1 (h.ext az) hu1.fB;rw[VG hlt]at bf;have oP:=ae bf;clear bf aW;go_wp2_with (fail);refine oP.out.mono ?_;rintro e w2 ⟨rfl,aJ⟩;have z8:=ae (FW v x w2 ((hM.ext az).ext aJ) ((h.ext az).ext aJ));have aZ:=ae (az.trans aJ);clear oP;go_wp2_with (fail);refine z8.out.mono ?_;rintro e w3 ⟨u3,rfl,R7,bg⟩;have HF:Hid (Js M w x y (.returned (.tuple #[.slice none 0 0,u3])) w3):=⟨_,_,rfl,by rw[Nat.div_eq_of_lt hlt];exact iX.nil M w3,by rw[Nat.mod_eq_of_lt hlt];exact R7,aZ.out.trans bg⟩;clear z8 hu1 R7 az aJ bg h h' hM;go_wp2;exact bu (v:=.tuple #[.slice none 0 0,u3]) (by simp[results,Tryz.results162,go_sem]) rfl HF.out
theorem qiW{x y:Nat}(h:y<=x):mG x y=0\/mG x y=1:=by
 unfold mG;rw[ah (by omega)]
 split
 ·exact .inr rfl
 ·exact .inl rfl
theorem quq{M:Nat->Prop}(v v':Value)(x y:Nat)(w:World)(hM:Mb M w)(h:gP M w v x)(h':gP M w v' y)(hle:y<=x)(h1:aH y=1):
 Calls Tryz.prog 162 #[v,v'] w (Js M w x y):=by
 have tO:y≠0:=λe=>by rw[e,qjs]at h1;omega
 have hyB:y<4294967296:=by have:=BJ y;rw[h1]at this;simpa using this
 have aW:=ae (FW v' y w hM h')
 go_enter Tryz.func162,Tryz.ntmps162
 go_wp2;refine wp_scope_straight ?_;go_wp2_with (fail);refine aW.out.mono ?_;rintro e w1 ⟨u1,rfl,hu1,az⟩;have oP:=ae (Ld v u1 x y w1 (h.ext az) hu1.fB);obtain⟨V,hV,KD,_⟩:=hu1.len;rw[h1]at hV KD;obtain⟨ua,uc,rfl⟩:=lM hV;clear aW;go_wp2_with (fail);refine oP.out.mono ?_;rintro e w2 ⟨rfl,aJ⟩
 have qwz:¬mG x y<0:=by rcases qiW hle with h|h<;>omega
 generalize mG x y=cc at*;obtain⟨b,o,rfl,hb,hc⟩:=oL (hV.ext aJ) (by omega);have c0:=hc 0 (by omega);rw[Nat.add_zero,show V 0=y by have:=KD;simp[nv]at this;exact this]at c0;have z8:=ae (qzm v x y w2 ((hM.ext az).ext aJ) ((h.ext az).ext aJ) (by omega) hyB);have aZ:=ae (az.trans aJ);have HM:=ae hM;clear oP hu1 hV KD az aJ h h' hM hc;go_wp2_with (fail);refine z8.out.mono ?_;rintro e w3 ⟨q,rfl,hq,bg⟩;have hr:x%y<y:=Nat.mod_lt _ (by omega);have dM:=ae (aZ.out.trans bg);have HQ:=ae hq;have Em:=ae (XX (M:=M) (x%y) w3 (HM.out.ext dM.out) (by omega));have lW:Hid (∃rr,rr=x%y):=⟨_,rfl⟩;obtain⟨rr,zw⟩:=lW.out;rw[<-zw]at hr Em;have lX:=ae zw;clear z8 bg hq c0 hb lW;rw[<-zw];clear zw;go_wp2_with (fail);refine Em.out.mono ?_;rintro e w4 ⟨r,rfl,hr4,bB⟩;have HF:Hid (Js M w x y (.returned (.tuple #[q,r])) w4):=⟨q,r,rfl,HQ.out.ext bB,by rw[<-lX.out];exact hr4,dM.out.trans bB⟩;clear Em hr4 bB;go_wp2;exact bu (v:=.tuple #[q,r]) (by simp[results,Tryz.results162,go_sem]) rfl HF.out
structure Pb(gu j n bV oV:Nat)(U V:Nat->Nat)(w:World):Prop where
 a:w.cell? ⟨gu,j+n,none⟩=some (.int .u32 (U (j+n)))
 b:w.cell? ⟨gu,j+(n-1),none⟩=some (.int .u32 (U (j+(n-1))))
 c:w.cell? ⟨gu,j+(n-2),none⟩=some (.int .u32 (U (j+(n-2))))
 d:w.cell? ⟨bV,oV+(n-1),none⟩=some (.int .u32 (V (n-1)))
 e:w.cell? ⟨bV,oV+(n-2),none⟩=some (.int .u32 (V (n-2)))
theorem Pb.ext{gu j n bV oV:Nat}{U V:Nat->Nat}{w w':World}(h:Pb gu j n bV oV U V w)(he:Ext w w'):Pb gu j n bV oV U V w':=by
 have h1:=oF _ _ h.a;have h2:=oF _ _ h.d;exact⟨by rw[he.cell h1];exact h.a,by rw[he.cell h1];exact h.b,by rw[he.cell h1];exact h.c,by rw[he.cell h2];exact h.d,by rw[he.cell h2];exact h.e⟩
theorem quh{x y s n la:Nat}{U Q:Nat->Nat}(hn:n=aH y)(hy:y≠0)(Bp:la=aH x)(hle:n<=la)(hU:nv U (la+1)=x*2^s):wh (x*2^s) (y*2^s) (la+1) (la+1-n) (la+1-n) U Q:=by
 have hp:0<2^s:=Nat.pow_pos (by decide);refine⟨?_,?_⟩
 ·rw[Nat.sub_self];show nv U (la+1)+y*2^s*(4294967296^(la+1-n)*0)=_;rw[Nat.mul_zero,Nat.mul_zero,Nat.add_zero,hU]
 rw[hU];have h1:=qjq y hy;have h2:=BJ x;have hpos:=VU hy;rw[<-hn]at h1 hpos;rw[<-Bp]at h2
 have h3:4294967296^la<=y*4294967296^(la+1-n):=by
  rw[show(4294967296:Nat)^la=4294967296^(n-1)*4294967296^(la+1-n) by rw[<-Nat.pow_add];congr 1;omega];exact eB _ h1
 rw[Nat.mul_right_comm];exact Nat.mul_lt_mul_of_pos_right (dH h2 h3) hp
theorem qu3{P V u2 u1 u0 v1 v2 k lp lv:Nat}(hP:P=((u2*4294967296+u1)*4294967296+u0)*4294967296^k+lp)(hV:V=(v1*4294967296+v2)*4294967296^k+lv)(iJ:lv<4294967296^k)(hv2:v2<4294967296)(hlt:P<V*4294967296):u2<=v1:=by
 refine eF λhc=>?_
 have h1:V<(v1+1)*4294967296*4294967296^k:=by
  have:(v1*4294967296+v2+1)*4294967296^k<=(v1+1)*4294967296*4294967296^k:=eB _ (by omega);rw[Nat.add_mul _ 1,Nat.one_mul]at this;omega
 have h2:(v1+1)*4294967296*4294967296*4294967296^k<=((u2*4294967296+u1)*4294967296+u0)*4294967296^k:=eB _ (by omega)
 have h3:(v1+1)*4294967296*4294967296*4294967296^k=(v1+1)*4294967296*4294967296^k*4294967296:=by rw[Nat.mul_right_comm]
 omega
theorem qun{M:Nat->Prop}(v v':Value)(x y:Nat)(w:World)(hM:Mb M w)(h:gP M w v x)(h':gP M w v' y)(hle:y<=x)(h2:2<=aH y)(hL:aH x+1<=1099511627776):
 Calls Tryz.prog 162 #[v,v'] w (Js M w x y):=by
 obtain⟨i0,hi,hz0,hz1,hz2⟩:=info_parts Tryz.FU
 have tO:y≠0:=λe=>by rw[e,qjs]at h2;omega
 have RG:aH y<=aH x:=jB hle;have aW:=ae (FW v' y w hM h')
 go_enter Tryz.func162,Tryz.ntmps162
 go_wp2;refine wp_scope_straight ?_;go_wp2_with (fail);refine aW.out.mono ?_;rintro e w1 ⟨u1,rfl,hu1,az⟩;have oP:=ae (Ld v u1 x y w1 (h.ext az) hu1.fB);obtain⟨V0,Hq,qcv,KC⟩:=hu1.len;obtain⟨n,hn⟩:∃n,n=aH y:=⟨_,rfl⟩;rw[<-hn]at Hq qcv KC h2 RG;obtain⟨ua,uc,rfl⟩:=lM Hq;have hVt:V0 (n-1)≠0:=KC.resolve_left (by omega);have HVT:=ae hVt;have HN:=ae hn;have qaB:=ae qcv;have PY:=ae Hq;have HX:=ae h;have HM:=ae hM;have aS:=ae az;have Mw:=ae tO;have qr2:=ae RG;have UF:=ae hle;clear aW hn KC hVt qcv Hq hu1 h h' hM az tO RG hle;go_wp2_with (fail);refine oP.out.mono ?_;rintro e w2 ⟨rfl,aJ⟩
 have qwz:¬mG x y<0:=by rcases qiW UF.out with h|h<;>omega
 generalize mG x y=cc at*;obtain⟨b,o,rfl,hb,hc⟩:=oL (PY.out.ext aJ) (by omega);have c0:=hc (n-1) (by omega);have hVl:=PY.out.2.1 (n-1) (by omega);have z8:=ae (qs8 (V0 (n-1)) w2 HVT.out hVl);have aZ:=ae (aS.out.trans aJ);have JN:=ae (PY.out.ext aJ);have qhV:=ae PY.out.2.1
 have kT:((n:Int)==1)=false:=by simp;omega
 have gH:n<=1099511627776:=JN.out.1
 have k1:(0:Int)<=(n:Int)-1:=by omega
 have k2:((n:Int)-1).toNat=n-1:=by omega
 have k3:(n:Int)-1<(n:Int):=by omega
 clear oP aJ hc PY;go_wp2_with (fail);refine z8.out.mono ?_;rintro e w3 ⟨s,rfl,⟨eU,hs2,sj⟩,rfl⟩;have jZ:=qux (by omega) qhV.out HVT.out eU sj;rw[qaB.out]at jZ;have Ev:=ae jZ;clear jZ;have Em:=ae (qoB (M:=M) _ y s w3 (HM.out.ext aZ.out) ⟨_,_,JN.out,qaB.out⟩ eU (by rw[Ev.out];exact gH));clear z8 c0 hb hs2 sj;go_wp2_with (fail);refine Em.out.mono ?_;rintro e w4 ⟨u4,rfl,R8,bB⟩;obtain⟨V,hV,KD,KC⟩:=R8.len;rw[Ev.out]at hV KD KC;obtain⟨va,vc,rfl⟩:=lM hV;have qsE:Hid (V (n-1)≠0):=KC.resolve_left (by omega);have eX:=ae (aZ.out.trans bB);have HV:=ae hV;have Mr:=ae KD;have CT5:=ae (FW v x w4 (HM.out.ext eX.out) (HX.out.ext eX.out));clear Em R8 bB KC hV KD HVT qhV qaB JN hVl;go_wp2_with (fail);refine CT5.out.mono ?_;rintro e w5 ⟨u5,rfl,hu5,bn⟩;obtain⟨_,hA,_,_⟩:=hu5.len;obtain⟨la,Bp⟩:∃la,la=aH x:=⟨_,rfl⟩
 have RG:n<=la:=by rw[Bp,HN.out];exact(by have:=qr2.out;rw[HN.out]at this;exact this)
 rw[<-Bp]at hA hL;have L9:=ae Bp;obtain⟨aa,ac,rfl⟩:=lM hA;have dV:=ae (eX.out.trans bn);have JO:=ae (HV.out.ext bn);clear CT5 hu5 bn hA HV Bp
 go_wp2_with (first|(refine wpList_make_full _ rfl _ _ _ rfl w5.heap.size 155 i0 (.int .u32 0) 1 Tryz.underlying28 hi hz0 hz1 .i64 .i64 _ _ (la+1) rfl rfl ?c4 ?c5 ?c2 ?c3 ?c6 ?_))
 case c2=>rw[hz2];omega
 case c3=>unfold maxLen;omega
 case c4=>go_num
 case c5=>go_num
 case c6=>simp
 intro w6 hown hgrow;have HD6:Hid (jy w6 w5.heap.size (la+1) (λ_=>0)):=⟨aG.BK hown,λ_ _=>(by decide:0<4294967296)⟩;have LZ:=ae (nL hgrow)
 have Ii:aH (x*2^s)<=la+1:=by
  rw[lZ,Nat.pow_succ,L9.out];refine Nat.mul_lt_mul'' (BJ x) ?_;exact dH (Nat.pow_lt_pow_right (by decide) eU) (by decide:2^32<=4294967296)
 have CT6:=ae (qoB (M:=M) v x s w6 (HM.out.ext (dV.out.trans LZ.out)) (HX.out.ext (dV.out.trans LZ.out)) eU (by omega));clear hown hgrow;go_wp2_with (fail);refine CT6.out.mono ?_;rintro e w7 ⟨u7,rfl,R9,gX⟩;obtain⟨Xd,Rb,zh,_⟩:=R9.len;obtain⟨lx,qdg⟩:∃lx,lx=aH (x*2^s):=⟨_,rfl⟩;rw[<-qdg]at Rb zh Ii;obtain⟨xa,xc,rfl⟩:=lM Rb
 have qx6:0<lx:=by
  rw[qdg];exact VU (Nat.ne_of_gt (Nat.mul_pos (dH (Nat.pos_of_ne_zero Mw.out) UF.out) (Nat.pow_pos (by decide))))
 obtain⟨xb,xo,rfl,hxb,FO⟩:=oL Rb qx6;have yV:=HD6.out.ext gX;have EJ:=ae FO;have GD:=ae zh;have mE:=ae Rb.2.1;have L6:=ae (LZ.out.trans gX);clear CT6 R9 gX Rb FO HD6 qdg zh
 go_wp2_with (refine TU rfl (.tmp 56) (.tmp 59) _ _ rfl 155 Tryz.underlying28 (by rw[hi];simp[hz1]) _ _ _ _ _ _ rfl rfl w5.heap.size 0 155 (la+1) _ yV.1 lx ?k1 (λi=>.int .u32 (Xd i)) ?k2 ?k3 ?k4 ?_)
 case k1=>show _=min _ _;omega
 case k2=>exact⟨xb,xo,⟨rfl,rfl⟩,EJ.out⟩
 case k3=>omega
 case k4=>exactλj hj=>rfl
 intro w8 hB8 NW;have hD8:=X9 hB8 (λ_ _=>(by decide:0<4294967296)) mE.out;have Wu:=qpc lx (la+1) Xd (by omega);generalize (λi=>if 0<=i/\i<0+lx then Xd (i-0)else 0)=U0 at hD8 Wu;rw[GD.out]at Wu;have Zo:=ae hD8;have qgk:Hid (Ext w5 w8):=L6.out.grown NW (λk hk=>by cases hk;exact aI _);have qA:=ae (quh (Q:=λ_=>0) HN.out Mw.out L9.out RG Wu);clear hB8 NW hD8 Wu yV EJ mE L6
 have m1:(la:Int)+1-(n:Int)=((la+1-n:Nat):Int):=by omega
 obtain⟨m,hm⟩:∃m,m=la+1-n:=⟨_,rfl⟩;rw[<-hm]at qA m1;have gK:=ae hm
 have Bq:m+n=la+1:=by omega
 clear hm
 go_wp2_with (first|(refine wpList_make_full _ rfl _ _ _ rfl w8.heap.size 155 i0 (.int .u32 0) 1 Tryz.underlying28 hi hz0 hz1 .i64 .i64 _ _ m rfl rfl ?c4 ?c5 ?c2 ?c3 ?c6 ?_))
 case c2=>rw[hz2];omega
 case c3=>unfold maxLen;omega
 case c4=>first|go_num|(simp;omega)
 case c5=>first|go_num|(simp;omega)
 case c6=>simp
 intro w9 hown hgrow;have HQ9:Hid (jy w9 w8.heap.size m (λ_=>0)):=⟨aG.BK hown,λ_ _=>(by decide:0<4294967296)⟩;have Zx:=ae (nL hgrow);have wu:=ae (Zo.out.ext Zx.out);have qmA:w5.heap.size<w8.heap.size:=Zo.out.1.lt;clear hown hgrow Zo;go_wp2;refine wp_label ?_;go_wp2
 go_loopw [13] (λi wr=>∃(k:Nat)(U Q:Nat->Nat),k<=m/\i=.int .i64 ((k:Int)-1)/\Hid (jy wr w5.heap.size (la+1) U)/\Hid (jy wr w8.heap.size m Q)/\Hid (wh (x*2^s) (y*2^s) (la+1) m k U Q)/\Hid (Ext w5 wr)) (λi _=>(intOf i+1).toNat)
 case atStart=>exact⟨m,U0,_,aI _,rfl,wu,HQ9,qA,qgk.out.trans Zx.out⟩
 case round=>
  clear qA HQ9 wu Zx;obtain⟨k,U,Q,hk,rfl,uQ,uP,oW,jA⟩:=hrel
  by_cases iO:k=0
  ·subst iO;have HYP:Hid (gP M wr (.slice (some ⟨w8.heap.size,0,none⟩) m m) (nv Q m)):=⟨m,Q,eu.I5 uP.out.1 ((HM.out.ext (dV.out.trans qgk.out)).new (aI _)) m (aI _) (by omega) (aI _) (by unfold maxLen;omega) (λi _=>rfl) uP.out.2,rfl⟩;have HUP:Hid (gP M wr (.slice (some ⟨w5.heap.size,0,none⟩) (la+1) (la+1)) (nv U (la+1))):=⟨la+1,U,eu.I5 uQ.out.1 ((HM.out.ext dV.out).new (aI _)) (la+1) (aI _) (by omega) (aI _) (by unfold maxLen;omega) (λi _=>rfl) uQ.out.2,rfl⟩
   have Pp:Hid (nv Q m=x/y/\nv U (la+1)/2^s=x%y):=by
    have h1:=oW.out.eq;have h2:=oW.out.lt;rw[Nat.pow_zero,Nat.one_mul,Nat.sub_zero]at h1;rw[Nat.pow_zero,Nat.mul_one]at h2;rw[pE (λt=>Q (0+t)) Q m (λi _=>by rw[Nat.zero_add])]at h1;exact quj (Nat.pos_of_ne_zero Mw.out) h1 h2
   have CT7:=ae (FW (.slice (some ⟨w8.heap.size,0,none⟩) m m) (nv Q m) wr (HM.out.ext (dV.out.trans jA.out)) HYP.out);clear oW uP uQ;go_wp2_with (fail);refine CT7.out.mono ?_;rintro e wa ⟨qv,rfl,hqv,uB⟩;have CT8:=ae (qzq (M:=M) _ (nv U (la+1)) s wa ((HM.out.ext (dV.out.trans jA.out)).ext uB) (HUP.out.ext uB) eU);have HQV:=ae hqv;have fH:=ae ((dV.out.trans jA.out).trans uB);clear CT7 hqv uB;go_wp2_with (fail);refine CT8.out.mono ?_;rintro e wb ⟨rv,rfl,hrv,FB⟩;have HF:Hid (Js M w x y (.returned (.tuple #[qv,rv])) wb):=⟨qv,rv,rfl,by rw[<-Pp.out.1];exact HQV.out.ext FB,by rw[<-Pp.out.2];exact hrv,fH.out.trans FB⟩;clear CT8 hrv FB;go_wp2;exact bu (v:=.tuple #[qv,rv]) (by simp[results,Tryz.results162,go_sem]) rfl HF.out
  ·obtain⟨j,hj⟩:∃j,j=k-1:=⟨k-1,rfl⟩
   obtain rfl:k=j+1:=by omega
   rw[show((j+1:Nat):Int)-1=(j:Int) by omega];obtain⟨vb,vo,rfl,KY,Sb⟩:=oL JO.out (by omega)
   have hvw:vb<wr.heap.size:=by have:=jA.out.size;omega
   have HYB:Hid (y*2^s<4294967296^n):=by rw[<-Ev.out];exact BJ _
   obtain⟨vH,NI⟩:=oW.out.part HYB.out (by omega)
   have q1:(j:Int)<=(j:Int)+(n:Int)+1:=by omega
   have q2:(j:Int)+(n:Int)+1<=(la:Int)+1:=by omega
   have q3:¬la+1=j:=by omega
   clear hj
   go_upto_region 17 with(fail)
   rw[show j+n+1-j=n+1 by omega];have d5:Pb w5.heap.size j n vb vo U V wr:=⟨uQ.out.1.cell (by omega),uQ.out.1.cell (by omega),uQ.out.1.cell (by omega),by rw[jA.out.cell KY];exact Sb _ (by omega),by rw[jA.out.cell KY];exact Sb _ (by omega)⟩;have fU:=ae (d5.ext (aA _).drew);have JP:=ae JO.out.2.1;obtain⟨e2,aJ⟩:∃e,e=U (j+n):=⟨_,rfl⟩;obtain⟨e1,az⟩:∃e,e=U (j+(n-1)):=⟨_,rfl⟩;obtain⟨e0,p8⟩:∃e,e=U (j+(n-2)):=⟨_,rfl⟩;obtain⟨f1,fP⟩:∃e,e=V (n-1):=⟨_,rfl⟩;obtain⟨f0,fV⟩:∃e,e=V (n-2):=⟨_,rfl⟩;have Ky:=qzP (λi=>U (j+i)) n h2;have Ww:=qzQ V n h2;have qmz:nv (λi=>U (j+i)) (n-2)<4294967296^(n-2):=qQ _ _ λi hi=>uQ.out.2 _ (by omega);have qde:nv V (n-2)<4294967296^(n-2):=qQ _ _ λi hi=>JP.out _ (by omega);rw[<-Mr.out]at NI
   have ql8:0<f1:=by rw[fP];exact Nat.pos_of_ne_zero qsE.out
   have jR:e2<4294967296:=by rw[aJ];exact uQ.out.2 _ (by omega)
   have hb1:e1<4294967296:=by rw[az];exact uQ.out.2 _ (by omega)
   have ll:e0<4294967296:=by rw[p8];exact uQ.out.2 _ (by omega)
   have fF:f1<4294967296:=by rw[fP];exact JP.out _ (by omega)
   have jY:f0<4294967296:=by rw[fV];exact JP.out _ (by omega)
   simp only[<-aJ, <-az, <-p8]at Ky;rw[<-fP, <-fV]at Ww;obtain⟨WJ,ql6⟩:=qu2 Ky Ww qmz qde ql8 NI;have mo:e2<=f1:=qu3 Ky Ww qde jY NI
   have ql7:iy e2 e1 e0 f1 f0<4294967296:=by
    have:iy e2 e1 e0 f1 f0<=4294967295:=Nat.min_le_left _ _;omega
   have Er:=λW=>ae (quP e2 e1 e0 f1 f0 W mo hb1 ll ql8 fF jY);generalize iy e2 e1 e0 f1 f0=kJ at*;have qgl:Hid (nv (λi=>U (j+i)) (n+1)/nv V n<=kJ/\kJ<=nv (λi=>U (j+i)) (n+1)/nv V n+1):=⟨WJ,ql6⟩;have JH:=ae vH;have eD:=ae NI;have qH:=jA.out.size
   have k4:((n:Int)-2).toNat=n-2:=by omega
   have k5:(0:Int)<=(n:Int)-2:=by omega
   have k6:(n:Int)-2<(n:Int)+1:=by omega
   have k7:(n:Int)-1<(n:Int)+1:=by omega
   have k8:(n:Int)-2<(n:Int):=by omega
   have k9:(n:Int)<(n:Int)+1:=by omega
   have XG:(1:Int)<=(n:Int):=by omega
   have XH:(2:Int)<=(n:Int):=by omega
   have kw1:IntKind.i64.wrap ((n:Int)-1)=(n:Int)-1:=IntWalk.i64_in _ (by omega);have kw2:IntKind.i64.wrap ((n:Int)-2)=(n:Int)-2:=IntWalk.i64_in _ (by omega);clear vH NI Ky Ww qmz qde WJ ql6 mo jR hb1 ll fF jY d5 Sb;refine gB (Pb w5.heap.size j n vb vo U V) 28 (by kernel_rfl) fU.out (λhHeld=>?_);(refine cB [0,1,2,3,4,5,6,7,8,9,10,11,12,13,14,15,16,17,18,19,20,21,22,23,24,25] ?_;(iterate 26 (refine bZ (v:=?_) ?_ ?_;rotate_left 1;(intro wS hSw;obtain⟨S1,S2,S3,S4,S5⟩:=hSw;go_simp;try with_reducible rfl);(try simp only[Act.put,aB,aC,aD])));refine cK ?_);simp only[<-aJ, <-az, <-p8, <-fP, <-fV];clear aJ az p8 fP fV qH q1 q2 q3 k4 k5 k6 k7 k8 k9 XG XH kw1 kw2;((refine aO 26 ?_;intro K hK);go_simp;(refine((Er _).out).mono ?_);rintro e_ wz ⟨rfl,KI⟩;go_wp2_with (fail);(try clear ag);(have ag:=hHeld.ext KI);(refine hK.out _ _ (λ_=>ag) ?_);clear hK K;(try simp only[Act.put,aB,aC,aD]));have Pq:=ae ((aA wr).drew.trans KI);have Wj:=uP.out.ext Pq.out;have hq1:=Wj.1.cell (i:=j) (by omega);have hq2:=Wj.1.frozen j
   have q4:j<m:=by omega
   (refine cB [27] ?_;(iterate 1 (refine bZ (v:=?_) ?_ ?_;rotate_left 1;(intro wS hSw;obtain⟨S1,S2,S3,S4,S5⟩:=hSw;go_simp;try with_reducible rfl);(try simp only[Act.put,aB,aC,aD])));refine cK ?_);((refine aO 28 ?_;intro K hK);go_simp;(refine hK.out _ _ (λh=>absurd rfl h) ?_);clear hK K;refine dX ?_);rename_i wz;have qkB:=Wj.set j kJ ql7;have jW:∃W2,W2=wz.setCell ⟨w8.heap.size,j,none⟩ (.int .u32 (kJ:Int)):=⟨_,rfl⟩;obtain⟨W2,jW⟩:=jW
   have qgi:Hid (Ext w5 W2):=by rw[jW];exact(jA.out.trans Pq.out).set (p:=⟨w8.heap.size,j,none⟩) (Nat.le_of_lt qmA) _
   have Zr:Hid (jy W2 w5.heap.size (la+1) U):=by
    rw[jW];have:=uQ.out.ext Pq.out;exact⟨this.1.vT (p:=⟨w8.heap.size,j,none⟩) (by show w5.heap.size≠w8.heap.size;omega) _,this.2⟩
   have LW:Hid (jy W2 w8.heap.size m (dK Q j kJ)):=by rw[jW];exact qkB
   rw[<-jW]
   have c1:W2.cell? ⟨w8.heap.size,j,none⟩=some (.int .u32 (kJ:Int)):=by
    rw[LW.out.1.cell (by omega)];unfold dK;rw[ai rfl]
   have jq:w8.heap.size<W2.heap.size:=LW.out.1.lt;have Gw:=ae (quU w5.heap.size j n (la+1-j) (la+1) (some ⟨vb,vo,none⟩) vc kJ U V W2 Zr.out (by omega) (JO.out.ext qgi.out) (λp hp=>by cases hp;show vb≠w5.heap.size;omega) ql7 (by omega));clear KI Wj hq1 hq2 qkB hHeld jW Er fU;go_wp2_with (fail);refine Gw.out.mono ?_;rintro e_ W3 ⟨bb,U3,rfl,Q8,NK⟩
   have qsI:Hid (0<nv V n):=by rw[Mr.out];exact Nat.mul_pos (Nat.pos_of_ne_zero Mw.out) (Nat.pow_pos (by decide))
   have hUp:nv (λi=>U3 (j+i)) (n+1)<4294967296^(n+1):=qQ _ _ λi hi=>Q8.dg.2 _ (by omega);obtain⟨si,pq⟩:=quk (b:=bb) (x:=4294967296^(n+1)) qsI.out qgl.out.1 qgl.out.2 (by rw[<-NK,Nat.mul_comm]) hUp;have yB:=ae Q8;have rH:=ae NK;have Ao:=ae si;have xy:=ae pq;have Zw:Hid (Ext w5 W3):=qgi.out.grown Q8.gr (λk hk=>by cases hk;exact aI _)
   have LY:Hid (jy W3 w8.heap.size m (dK Q j kJ)):=by
    refine⟨LW.out.1.of_heap (Q8.gr.block _ LW.out.1.lt (λe=>?_)),LW.out.2⟩;simp only[Option.some.injEq]at e;omega
   clear Q8 NK si pq hUp Gw LW c1;cases bb
   ·have Cr:Hid (wh (x*2^s) (y*2^s) (la+1) m j U3 (dK Q j kJ)):=by
     have h1:=Ao.out rfl
     have h2:wh (x*2^s) (y*2^s) (la+1) m (j+1) U (dK Q j kJ):=oW.out.congr λi hi=>by unfold dK;rw[ah (by omega)]
     exact h2.next HYB.out (by omega) q4 (by unfold dK;rw[ai rfl]) (λi hi=>yB.out.same i (by omega)) rfl (by rw[<-Mr.out];exact h1.1) (by rw[<-Mr.out];exact h1.2) uQ.out.2
    have qrA:=ae yB.out.dg;clear Ao xy rH yB oW uP uQ Zr;go_wp2
    go_roundw
    case rel=>exact⟨j,U3,dK Q j kJ,by omega,by go_num,qrA,LY,Cr,Zw⟩
    case measure=>simp[intOf]
   ·have h1:=xy.out rfl;have hep:0<kJ:=h1.2.1;have H1:=ae h1
    have c3:W3.cell? ⟨w8.heap.size,j,none⟩=some (.int .u32 (kJ:Int)):=by
     rw[LY.out.1.cell (by omega)];unfold dK;rw[ai rfl]
    have c4:=LY.out.1.frozen j;have kQ:=LY.out.1.lt
    have kw:(kJ:Int)-1=((kJ-1:Nat):Int):=by omega
    have kw3:IntKind.u32.wrap ((kJ:Int)-1)=(kJ:Int)-1:=by rw[kw];exact wrap_u32 _ (by omega)
    clear h1 kw
    go_upto_region 20 with(fail)
    obtain⟨W4,gG⟩:∃W4,W4=W3.setCell ⟨w8.heap.size,j,none⟩ (.int .u32 ((kJ:Int)-1)):=⟨_,rfl⟩
    have WJ:kJ-1<4294967296:=by omega
    have qgj:Hid (Ext w5 W4):=by rw[gG];exact Zw.out.set (p:=⟨w8.heap.size,j,none⟩) (Nat.le_of_lt qmA) _
    have qge:Hid (jy W4 w5.heap.size (la+1) U3):=by
     rw[gG];exact⟨yB.out.dg.1.vT (p:=⟨w8.heap.size,j,none⟩) (by show w5.heap.size≠w8.heap.size;omega) _,yB.out.dg.2⟩
    have Un:Hid (jy W4 w8.heap.size m (dK (dK Q j kJ) j (kJ-1))):=by
     rw[gG,show(kJ:Int)-1=((kJ-1:Nat):Int) by omega];exact LY.out.set j _ WJ
    rw[<-gG];have HAB:=ae (quL w5.heap.size j n (la+1-j) (la+1) (some ⟨vb,vo,none⟩) vc U3 V W4 qge.out (by omega) (JO.out.ext qgj.out) (λp hp=>by cases hp;show vb≠w5.heap.size;omega) (by omega));clear c3 c4 kQ kw3 gG LY Zw;go_wp2_with (fail);refine HAB.out.mono ?_;rintro e_ W5 ⟨kk,U5,rfl,jm,NL⟩;have qrD:Hid (Ext w5 W5):=qgj.out.grown jm.gr (λk hk=>by cases hk;exact aI _)
    have qrz:Hid (jy W5 w8.heap.size m (dK (dK Q j kJ) j (kJ-1))):=by
     refine⟨Un.out.1.of_heap (jm.gr.block _ Un.out.1.lt (λe=>?_)),Un.out.2⟩;simp only[Option.some.injEq]at e;omega
    have qrB:=ae jm.dg
    have Cr:Hid (wh (x*2^s) (y*2^s) (la+1) m j U5 (dK (dK Q j kJ) j (kJ-1))):=by
     have h2:wh (x*2^s) (y*2^s) (la+1) m (j+1) U (dK (dK Q j kJ) j (kJ-1)):=oW.out.congr λi hi=>by unfold dK;rw[ah (by omega),ah (by omega)]
     have h3:=rH.out;simp only[if_true,Nat.one_mul]at h3;have h4:nv (λi=>U5 (j+i)) (n+1)<4294967296^(n+1):=qQ _ _ λi hi=>jm.dg.2 _ (by omega)
     have h5:nv V n<=4294967296^(n+1):=by
      have h6:=qQ V n JP.out;rw[Nat.pow_succ];omega
     have h7:=qui (Y:=nv V n) h3 NL hep h4 H1.out.2.2.2 H1.out.2.2.1 h5;exact h2.next HYB.out (by omega) q4 (by unfold dK;rw[ai rfl]) (λi hi=>by rw[jm.same i (by omega),yB.out.same i (by omega)]) rfl (by rw[<-Mr.out];exact h7.1) (by rw[<-Mr.out];exact h7.2) uQ.out.2
    clear HAB jm NL H1 Ao xy rH yB oW uP uQ Zr qge Un;go_wp2
    go_roundw
    case rel=>exact⟨j,U5,dK (dK Q j kJ) j (kJ-1),by omega,by go_num,qrB,qrz,Cr,qrD⟩
    case measure=>simp[intOf]
theorem qjz{M:Nat->Prop}(v v':Value)(x y:Nat)(w:World)(hM:Mb M w)(h:gP M w v x)(h':gP M w v' y)(hy:y≠0)(hL:aH x+1<=1099511627776):
 Calls Tryz.prog 162 #[v,v'] w (Js M w x y):=by
 by_cases hlt:x<y
 ·exact qup v v' x y w hM h h' hlt
 ·by_cases h1:aH y=1
  ·exact quq v v' x y w hM h h' (by omega) h1
  ·exact qun v v' x y w hM h h' (by omega) (by have:=VU hy;omega) hL
theorem qjA{M:Nat->Prop}(b:Bool)(a:Option Addr)(n p:Nat)(z:Int)(w:World)(h:dQ M w (.bool b) (.slice a n p) z):
 Calls Tryz.prog 127 #[.agg #[.bool b,.slice a n p]] w λe w'=>e=.returned (.bool (decide (z=0)))/\Ext w w':=by
 have hE:Ext w (w.alloc (.cells #[.bool b,.slice a n p] 30)):=(aA w).alloc _;have HI:=ae (h.ext hE)
 have hz:(z.sign==0)=decide (z=0):=by
  rw[Bool.eq_iff_iff,beq_iff_eq,decide_eq_true_iff,Int.sign_eq_zero_iff_zero]
 have HZ:=ae hz;clear h hz
 go_enter Tryz.func127,Tryz.ntmps127
 go_wp2_with (fail);refine(IU _ _ z _ HI.out).mono ?_;rintro e w1 ⟨rfl,az⟩;generalize z.sign=s at*;have HE:=ae (hE.trans az);clear hE az HI;go_wp2;go_ret;exact⟨by rw[HZ.out];rfl,HE.out⟩
theorem qBi(na nb:Bool)(x y:Nat):(dw na x).tdiv (dw nb y)=dw (na !=nb) (x/y):=by
 unfold dw;cases na<;>cases nb<;>simp[Int.neg_tdiv,Int.tdiv_neg,Int.ofNat_tdiv]
theorem qBj(na nb:Bool)(x y:Nat):(dw na x).tmod (dw nb y)=dw na (x%y):=by
 unfold dw;cases na<;>cases nb<;>simp[Int.neg_tmod,Int.tmod_neg]<;>exact Int.tmod_eq_emod_of_nonneg (iw _)
def qip(M:Nat->Prop)(w:World)(y z:Int)(e:Ending)(w':World):Prop:=∃(b:Bool)(a:Option Addr)(n p:Nat)(b2:Bool)(a2:Option Addr)(n2 p2:Nat),e=.returned (.tuple #[.agg #[.bool b,.slice a n p],.agg #[.bool b2,.slice a2 n2 p2],.int .i64 0])/\ek M w' (.bool b) (.slice a n p) (y.tdiv z)/\ek M w' (.bool b2) (.slice a2 n2 p2) (y.tmod z)/\Ext w w'
def GJ(g h:Nat)(b b':Bool)(w:World):Prop:=w.cell? ⟨g,0,none⟩=some (.bool b)/\w.cell? ⟨h,0,none⟩=some (.bool b')
theorem GJ.ext{g h:Nat}{b b':Bool}{w w':World}(k:GJ g h b b' w)(he:Ext w w'):GJ g h b b' w':=by
 have h1:=oF _ _ k.1;have h2:=oF _ _ k.2;exact⟨by rw[he.cell h1];exact k.1,by rw[he.cell h2];exact k.2⟩
theorem Nc(w:World){g k b o:Nat}(u:Value)(h:b≠g):(w.setCell ⟨g,k,none⟩ u).cell? ⟨b,o,none⟩=w.cell? ⟨b,o,none⟩:=
 World.cell?_of_block (Below.heap_setCell w ⟨g,k,none⟩ u b h)
theorem qvn{M':Nat->Prop}{w W:World}{g h:Nat}{t t':TypeId}{f f':Nat->Value}(A B C D:Value)(hB:aG W g t 2 f)(hC:aG W h t' 2 f')(hne:g≠h)(hg:M' g)(hh:M' h)(hw:w.heap.size<=g)(hw':w.heap.size<=h)(he:Ext w W):
 ∃WA WB,WA=(W.setCell ⟨g,0,none⟩ A).setCell ⟨g,1,none⟩ B/\WB=(WA.setCell ⟨h,0,none⟩ C).setCell ⟨h,1,none⟩ D/\
 (W.cell? ⟨g,0,none⟩=some (f 0)/\W.cell? ⟨g,1,none⟩=some (f 1)/\W.frozen? ⟨g,0,none⟩=false/\W.frozen? ⟨g,1,none⟩=false)/\
 (WA.cell? ⟨h,0,none⟩=some (f' 0)/\WA.cell? ⟨h,1,none⟩=some (f' 1)/\WA.frozen? ⟨h,0,none⟩=false/\WA.frozen? ⟨h,1,none⟩=false)/\
 (WB.cell? ⟨g,0,none⟩=some A/\WB.cell? ⟨g,1,none⟩=some B/\WB.cell? ⟨h,0,none⟩=some C/\WB.cell? ⟨h,1,none⟩=some D)/\
 Kp M' W WB/\Ext w WB/\(∀b o,b≠g->WA.cell? ⟨b,o,none⟩=W.cell? ⟨b,o,none⟩)/\(∀b o,b≠g->b≠h->WB.cell? ⟨b,o,none⟩=W.cell? ⟨b,o,none⟩)/\Ext w WA:=by
 have dJ:=(hB.set 0 A).set 1 B;have rV:=(hC.vT (p:=⟨g,0,none⟩) (λe=>hne e.symm) A).vT (p:=⟨g,1,none⟩) (λe=>hne e.symm) B;have hC3:=(rV.set 0 C).set 1 D;have jM:=(dJ.vT (p:=⟨h,0,none⟩) hne C).vT (p:=⟨h,1,none⟩) hne D;refine⟨_,_,rfl,rfl,⟨hB.cell (by omega),hB.cell (by omega),hB.frozen 0,hB.frozen 1⟩,⟨rV.cell (by omega),rV.cell (by omega),rV.frozen 0,rV.frozen 1⟩,⟨?_,?_,?_,?_⟩,?_,?_,?_,?_,?_⟩
 ·rw[jM.cell (i:=0) (by omega)];simp[jr]
 ·rw[jM.cell (i:=1) (by omega)];simp[jr]
 ·rw[hC3.cell (i:=0) (by omega)];simp[jr]
 ·rw[hC3.cell (i:=1) (by omega)];simp[jr]
 ·exact(((Kp.set _ _ hg _).trans (Kp.set _ _ hg _)).trans (Kp.set _ _ hh _)).trans (Kp.set _ _ hh _)
 ·exact(((he.set (p:=⟨g,0,none⟩) hw _).set (p:=⟨g,1,none⟩) hw _).set (p:=⟨h,0,none⟩) hw' _).set (p:=⟨h,1,none⟩) hw' _
 ·intro b o hb;rw[Nc _ _ hb,Nc _ _ hb]
 ·intro b o hb hb';rw[Nc _ _ hb',Nc _ _ hb',Nc _ _ hb,Nc _ _ hb]
 ·exact(he.set (p:=⟨g,0,none⟩) hw _).set (p:=⟨g,1,none⟩) hw _
theorem qjB{M:Nat->Prop}(b:Bool)(a:Option Addr)(n p:Nat)(y:Int)(b':Bool)(a':Option Addr)(n' p':Nat)(z:Int)(w:World)(hM:Mb M w)(h:dQ M w (.bool b) (.slice a n p) y)(h':dQ M w (.bool b') (.slice a' n' p') z)(hz:z≠0)(hL:aH y.natAbs+1<=1099511627776):
 Calls Tryz.prog 126 #[.agg #[.bool b,.slice a n p],.agg #[.bool b',.slice a' n' p']] w (qip M w y z):=by
 have bL:=((((aG.bq w #[.bool b,.slice a n p] 30 2 rfl).alloc (.cells #[.bool b',.slice a' n' p'] 30)).alloc (.cells #[.bool false,.slice none 0 0] 30)).alloc (.cells #[.bool false,.slice none 0 0] 30));have dm:=(((aG.bq (w.alloc (.cells #[.bool b,.slice a n p] 30)) #[.bool b',.slice a' n' p'] 30 2 rfl).alloc (.cells #[.bool false,.slice none 0 0] 30)).alloc (.cells #[.bool false,.slice none 0 0] 30));have dJ:=((aG.bq ((w.alloc (.cells #[.bool b,.slice a n p] 30)).alloc (.cells #[.bool b',.slice a' n' p'] 30)) #[.bool false,.slice none 0 0] 30 2 rfl).alloc (.cells #[.bool false,.slice none 0 0] 30));have jM:=aG.bq (((w.alloc (.cells #[.bool b,.slice a n p] 30)).alloc (.cells #[.bool b',.slice a' n' p'] 30)).alloc (.cells #[.bool false,.slice none 0 0] 30)) #[.bool false,.slice none 0 0] 30 2 rfl;have aV:Ext w ((((w.alloc (.cells #[.bool b,.slice a n p] 30)).alloc (.cells #[.bool b',.slice a' n' p'] 30)).alloc (.cells #[.bool false,.slice none 0 0] 30)).alloc (.cells #[.bool false,.slice none 0 0] 30)):=((((aA w).alloc _).alloc _).alloc _).alloc _;simp only[World.size_alloc]at dm dJ jM;have dD:Mb (Mx M w.heap.size (w.heap.size+4)) ((((w.alloc (.cells #[.bool b,.slice a n p] 30)).alloc (.cells #[.bool b',.slice a' n' p'] 30)).alloc (.cells #[.bool false,.slice none 0 0] 30)).alloc (.cells #[.bool false,.slice none 0 0] 30)):=Mx.mb hM (by simp;omega) (by simp);have h0:=(h.more (M':=Mx M w.heap.size (w.heap.size+4)) (Mx.more (aI _))).ext aV
 have AU:=(h'.more (M':=Mx M w.heap.size (w.heap.size+4)) (Mx.more (aI _))).ext aV;generalize ze:(((w.alloc (.cells #[.bool b,.slice a n p] 30)).alloc (.cells #[.bool b',.slice a' n' p'] 30)).alloc (.cells #[.bool false,.slice none 0 0] 30)).alloc (.cells #[.bool false,.slice none 0 0] 30)=W0 at*;have Gz:=ae ze;have dY:=ae bL;have dF:=ae dm;have eG:=ae dJ;have lT:=ae jM;have gI:=ae aV;have ui:=ae dD;have Uu:=ae h0;have Gj:=ae AU;clear h h' hM ze bL dm dJ jM aV dD h0 AU
 go_enter Tryz.func126,Tryz.ntmps126
 go_upto_region 1 with(fail)
 rw[Gz.out];have Vt:=dY.out.cell (i:=0) (by omega);have c01:=dY.out.cell (i:=1) (by omega);have Vu:=dF.out.cell (i:=0) (by omega);have c11:=dF.out.cell (i:=1) (by omega);simp only[arr]at Vt c01 Vu c11;have g0:=dY.out.lt;have g1:=dF.out.lt;have bf:=qjA _ _ _ _ z W0 Gj.out;rw[decide_eq_false hz]at bf;have aW:=ae bf;clear bf;go_wp2_with (fail);refine aW.out.mono ?_;rintro e w1 ⟨rfl,az⟩;obtain⟨nb,x1,hb1,gY,jh⟩:=Uu.out.ext az;obtain⟨nb',x2,jR,qd,rC⟩:=Gj.out.ext az;simp only[Value.bool.injEq]at hb1 jR;subst hb1 jR;have qnx:x2≠0:=λe=>hz (by rw[rC,e];unfold dw;split<;>rfl);have oP:=ae (qjz _ _ x1 x2 w1 (ui.out.ext az) gY qd qnx (by rw[jh,uJ]at hL;exact hL));have rJ:=ae jh;have o5:=ae rC;have aS:=ae az;rw[<-az.cell g0]at Vt c01;rw[<-az.cell g1]at Vu c11;have g0:=dH g0 az.size;have g1:=dH g1 az.size;clear aW gY qd jh rC az qnx hz hL;go_wp2_with (fail);refine oP.out.mono ?_;rintro e w2 ⟨q,r,rfl,hq,hr,aJ⟩;obtain⟨qa,qn,qc,rfl⟩:=hq.fB.form;obtain⟨ra,rn,rc,rfl⟩:=hr.fB.form;have aZ:=ae ((aS.out.trans aJ).drew);have HQ:=ae (hq.fB.ext (aA w2).drew);have HR:=ae (hr.fB.ext (aA w2).drew);have fU:Hid (GJ w.heap.size (w.heap.size+1) b b' w2.drew):=GJ.ext ⟨Vt,Vu⟩ (aJ.drew);have gJ:=ae (ui.out.ext aZ.out)
 clear oP hq hr aJ Vt c01 Vu c11
 go_upto_region 4 with(fail)
 refine gB (GJ w.heap.size (w.heap.size+1) b b') 13 (by kernel_rfl) fU.out (λhHeld=>?_);(refine cB [0,1,2,3,4,5,7,8,9] ?_;(iterate 9 (refine bZ (v:=?_) ?_ ?_;rotate_left 1;(intro wS hSw;obtain⟨S1,S2⟩:=hSw;go_simp;try with_reducible rfl);(try simp only[Act.put,aB,aC,aD])));refine cK ?_);((refine aO 6 ?_;intro K hK);go_simp;(refine(Ot (b !=b') _ (x1/x2) _ gJ.out HQ.out).mono ?_);rintro e_ wz ⟨k0,k1,rfl,hk,bg⟩;go_wp2_with (fail);(try clear ag);(have ag:=hHeld.ext bg);(refine hK.out _ _ (λ_=>ag) ?_);clear hK K;(try simp only[Act.put,aB,aC,aD]));obtain⟨kb,ka,kn,kp,rfl,rfl⟩:=hk.form;((refine aO 10 ?_;intro K hK);go_simp;(refine(Ot b _ (x1%x2) _ (gJ.out.ext bg) (HR.out.ext bg)).mono ?_);rintro e_ wz ⟨m0,m1,rfl,hm,bB⟩;go_wp2_with (fail);(try clear ag);(have ag:=hHeld.ext (bg.trans bB));(refine hK.out _ _ (λ_=>ag) ?_);clear hK K;(try simp only[Act.put,aB,aC,aD]));rename_i wz;obtain⟨mb,ma,mn,mp,rfl,rfl⟩:=hm.form;have eX:=ae (aZ.out.trans (bg.trans bB));have HK:=ae (hk.ext bB);have ZU:=ae hm;have U1:=ae ag;obtain⟨WA,WB,hWA,hWB,⟨q0,q1,q2,q3⟩,⟨p0,p1,p2,p3⟩,⟨r0,r1,r2,r3⟩,bD,eO,hcA,hcB,_⟩:=qvn (M':=Mx M w.heap.size (w.heap.size+4)) (w:=w) (.bool kb) (.slice ka kn kp) (.bool mb) (.slice ma mn mp) (eG.out.ext eX.out) (lT.out.ext eX.out) (by omega) (Mx.at (by omega)) (Mx.at (by omega)) (by omega) (by omega) (gI.out.trans eX.out)
 have hSA:GJ w.heap.size (w.heap.size+1) b b' WA:=⟨by rw[hcA _ _ (by omega)];exact U1.out.1,by rw[hcA _ _ (by omega)];exact U1.out.2⟩;have hSB:GJ w.heap.size (w.heap.size+1) b b' WB:=⟨by rw[hcB _ _ (by omega) (by omega)];exact U1.out.1,by rw[hcB _ _ (by omega) (by omega)];exact U1.out.2⟩
 have HF:Hid (qip M w y z (.returned (.tuple #[.agg #[.bool kb,.slice ka kn kp],.agg #[.bool mb,.slice ma mn mp],.int .i64 0])) WB):=
  ⟨_,_,_,_,_,_,_,_,rfl,by rw[rJ.out,o5.out,qBi];exact(HK.out.kp bD).more Mx.less,by rw[rJ.out,o5.out,qBj];exact(ZU.out.kp bD).more Mx.less,eO⟩
 have HWA:=ae hWA;have HWB:=ae hWB;have HPA:Hid ((WA.cell? ⟨w.heap.size+1+1+1,0,none⟩=some (.bool false)/\WA.cell? ⟨w.heap.size+1+1+1,1,none⟩=some (.slice none 0 0))/\WA.frozen? ⟨w.heap.size+1+1+1,0,none⟩=false/\WA.frozen? ⟨w.heap.size+1+1+1,1,none⟩=false):=⟨⟨p0,p1⟩,p2,p3⟩;simp only[arr]at q0 q1;clear hk hm bg bB hHeld bD eO hcA hcB p0 p1 p2 p3 hWA hWB ag;(refine aO 11 ?_;intro K hK);go_simp;rw[<-HWA.out];refine hK.out _ _ (λ_=>hSA) ?_;clear hK K q0 q1 q2 q3 HWA;(try simp only[Act.put,aB,aC,aD]);obtain⟨⟨p0,p1⟩,p2,p3⟩:=HPA.out;(refine aO 12 ?_;intro K hK);go_simp;rw[<-HWB.out];refine hK.out _ _ (λ_=>hSB) ?_;clear hK K p0 p1 p2 p3 HWB;(try simp only[Act.put,aB,aC,aD]);((refine aO 13 ?_;intro K hK);go_simp;(refine hK.out _ _ (λh=>absurd rfl h) ?_);clear hK K;refine dX ?_);clear hSA hSB;go_wp2;exact bu (v:=.tuple #[.agg #[.bool kb,.slice ka kn kp],.agg #[.bool mb,.slice ma mn mp],.int .i64 0]) (by simp[results,Tryz.results126,go_sem,r0,r1,r2,r3]) rfl HF.out
def XV(w:World)(v:Value):Nat:=match v with
 | .slice (some ⟨b,off,none⟩) n _=>nv (λi=>match w.cell? ⟨b,off+i,none⟩with|some (.int .u32 k)=>k.toNat|_=>0) n
 |_=>0
theorem qov{M:Nat->Prop}{w:World}{v:Value}{x:Nat}(h:gP M w v x):XV w v=x:=by
 obtain⟨n,d,⟨_,_,h3⟩,rfl⟩:=h;rcases h3 with⟨rfl,a,cap,rfl,_⟩|⟨b,off,cap,rfl,_,_,_,hc⟩
 ·unfold XV;split
  ·rename_i hh;simp only[Value.slice.injEq]at hh;obtain⟨_,rfl,_⟩:=hh;rfl
  ·rfl
 ·unfold XV;refine pE _ _ _ λi hi=>?_;rw[hc i hi];simp
def Y6(M:Nat->Prop)(w:World)(y z:Int)(e:Ending)(w':World):Prop:=∃(b:Bool)(a:Option Addr)(n p:Nat),e=.returned (.agg #[.bool b,.slice a n p])/\ek M w' (.bool b) (.slice a n p) (Nat.gcd y.natAbs z.natAbs:Nat)/\Ext w w'
def MS(g h:Nat)(v v':Value)(w:World):Prop:=w.cell? ⟨g,1,none⟩=some v/\w.cell? ⟨h,1,none⟩=some v'
theorem MS.ext{g h:Nat}{v v':Value}{w w':World}(k:MS g h v v' w)(he:Ext w w'):MS g h v v' w':=by
 have h1:=oF _ _ k.1;have h2:=oF _ _ k.2;exact⟨by rw[he.cell h1];exact k.1,by rw[he.cell h2];exact k.2⟩
def Pf(M:Nat->Prop)(w:World)(G:Nat)(x y:Nat)(u v:Value):Prop:=iX M w u x/\iX M w v y/\Nat.gcd x y=G/\aH x+1<=1099511627776/\aH y+1<=1099511627776
theorem Pf.next{M:Nat->Prop}{w w':World}{G x y:Nat}{u v r:Value}(h:Pf M w G x y u v)(he:Ext w w')(hr:iX M w' r (x%y)):Pf M w' G y (x%y) v r:=by
 obtain⟨h1,h2,h3,h4,h5⟩:=h;refine⟨h2.ext he,hr,?_,h5,?_⟩
 ·rw[<-h3,Nat.gcd_comm x y,Nat.gcd_rec y x,Nat.gcd_comm]
 ·have:=jB (Nat.mod_le x y);omega
theorem iX.slice{M:Nat->Prop}{w:World}{v:Value}{x:Nat}(h:iX M w v x):∃a p,v=.slice a (aH x) p:=by
 obtain⟨d,h1,_⟩:=h.len;obtain⟨a,p,rfl⟩:=lM h1;exact⟨a,p,rfl⟩
theorem quR{M:Nat->Prop}(b:Bool)(a:Option Addr)(n p:Nat)(y:Int)(b':Bool)(a':Option Addr)(n' p':Nat)(z:Int)(w:World)(hM:Mb M w)(h:dQ M w (.bool b) (.slice a n p) y)(h':dQ M w (.bool b') (.slice a' n' p') z)(hL:aH y.natAbs+1<=1099511627776)(Ff:aH z.natAbs+1<=1099511627776):
 Calls Tryz.prog 137 #[.agg #[.bool b,.slice a n p],.agg #[.bool b',.slice a' n' p']] w (Y6 M w y z):=by
 have bL:=(((aG.bq w #[.bool b,.slice a n p] 30 2 rfl).alloc (.cells #[.bool b',.slice a' n' p'] 30)).alloc (.cells #[.bool false,.slice none 0 0] 30));have dm:=((aG.bq (w.alloc (.cells #[.bool b,.slice a n p] 30)) #[.bool b',.slice a' n' p'] 30 2 rfl).alloc (.cells #[.bool false,.slice none 0 0] 30));have dJ:=aG.bq ((w.alloc (.cells #[.bool b,.slice a n p] 30)).alloc (.cells #[.bool b',.slice a' n' p'] 30)) #[.bool false,.slice none 0 0] 30 2 rfl;have aV:Ext w (((w.alloc (.cells #[.bool b,.slice a n p] 30)).alloc (.cells #[.bool b',.slice a' n' p'] 30)).alloc (.cells #[.bool false,.slice none 0 0] 30)):=(((aA w).alloc _).alloc _).alloc _;simp only[World.size_alloc]at dm dJ;have dD:Mb (Mx M w.heap.size (w.heap.size+3)) (((w.alloc (.cells #[.bool b,.slice a n p] 30)).alloc (.cells #[.bool b',.slice a' n' p'] 30)).alloc (.cells #[.bool false,.slice none 0 0] 30)):=Mx.mb hM (by simp;omega) (by simp);have h0:=(h.more (M':=Mx M w.heap.size (w.heap.size+3)) (Mx.more (aI _))).ext aV;have AU:=(h'.more (M':=Mx M w.heap.size (w.heap.size+3)) (Mx.more (aI _))).ext aV;generalize ze:((w.alloc (.cells #[.bool b,.slice a n p] 30)).alloc (.cells #[.bool b',.slice a' n' p'] 30)).alloc (.cells #[.bool false,.slice none 0 0] 30)=W0 at*;have Gz:=ae ze;have eG:=ae (dJ.ext (aA _).drew);have gI:=ae (aV.drew);have ui:=ae (dD.ext (aA _).drew);obtain⟨nb,x1,hb1,gY,rfl⟩:=h0.ext (aA _).drew
 obtain⟨nb',x2,jR,qd,rfl⟩:=AU.ext (aA _).drew;simp only[Value.bool.injEq]at hb1 jR;subst hb1 jR;rw[uJ]at hL Ff;have lH:=ae gY;have lY:=ae qd;have fU:Hid (MS w.heap.size (w.heap.size+1) (.slice a n p) (.slice a' n' p') W0.drew):=MS.ext ⟨bL.cell (i:=1) (by omega),dm.cell (i:=1) (by omega)⟩ (aA _).drew;have HG:Hid (∃G,G=Nat.gcd x1 x2):=⟨_,rfl⟩;obtain⟨G,hG⟩:=HG.out;have sP:=ae hG;clear h h' hM ze bL dm dJ aV dD h0 AU gY qd HG hG
 go_enter Tryz.func137,Tryz.ntmps137
 go_upto_region 1 with(fail)
 rw[Gz.out];refine gB (MS w.heap.size (w.heap.size+1) (.slice a n p) (.slice a' n' p')) 7 (by kernel_rfl) fU.out (λhHeld=>?_);(refine cB [0,1,3,4] ?_;(iterate 4 (refine bZ (v:=?_) ?_ ?_;rotate_left 1;(intro wS hSw;obtain⟨S1,S2⟩:=hSw;go_simp;try with_reducible rfl);(try simp only[Act.put,aB,aC,aD])));refine cK ?_);((refine aO 2 ?_;intro K hK);go_simp;(refine(FW _ x1 _ ui.out lH.out).mono ?_);rintro e_ wz ⟨u,rfl,hu,az⟩;go_wp2_with (fail);(try clear ag);(have ag:=hHeld.ext az);(refine hK.out _ _ (λ_=>ag) ?_);clear hK K;(try simp only[Act.put,aB,aC,aD]));((refine aO 5 ?_;intro K hK);go_simp;(refine(FW _ x2 _ (ui.out.ext az) (lY.out.ext az)).mono ?_);rintro e_ wz ⟨v,rfl,hv,aJ⟩;go_wp2_with (fail);(try clear ag);(have ag:=hHeld.ext (az.trans aJ));(refine hK.out _ _ (λ_=>ag) ?_);clear hK K;(try simp only[Act.put,aB,aC,aD]));rename_i wz;have HI:Hid (Pf (Mx M w.heap.size (w.heap.size+3)) wz G x1 x2 u v):=⟨hu.ext aJ,hv,sP.out.symm,hL,Ff⟩;have Pt:=ae (az.trans aJ);clear hu hv az aJ;(refine cB [6] ?_;(iterate 1 (refine bZ (v:=?_) ?_ ?_;rotate_left 1;(intro wS hSw;obtain⟨S1,S2⟩:=hSw;go_simp;try with_reducible rfl);(try simp only[Act.put,aB,aC,aD])));refine cK ?_);((refine aO 7 ?_;intro K hK);go_simp;(refine hK.out _ _ (λh=>absurd rfl h) ?_);clear hK K;refine dX ?_)
 clear ag hHeld lH lY fU hL Ff;go_wp2
 go_loopw [5,6] (λcu cv wr=>∃(x y:Nat),Hid (Pf (Mx M w.heap.size (w.heap.size+3)) wr G x y cu cv)/\Hid (Ext W0.drew wr)) (λ_ cv wr=>XV wr cv)
 case atStart=>exact⟨x1,x2,HI,Pt⟩
 case round=>
  clear HI Pt;obtain⟨x,y,HI,HE⟩:=hrel;obtain⟨ua,up,rfl⟩:=HI.out.1.slice;obtain⟨va,vp,rfl⟩:=HI.out.2.1.slice;obtain⟨lx,Ii⟩:∃lx,lx=aH x:=⟨_,rfl⟩;obtain⟨ly,N9⟩:∃ly,ly=aH y:=⟨_,rfl⟩;have PK:=ae Ii;have Gm:=ae N9;rw[<-Ii, <-N9]at HI;rw[<-Ii, <-N9];clear Ii N9
  by_cases qcF:2<lx\/2<ly
  ·have qlU:(2:Int)<(lx:Int)\/(¬(2:Int)<(lx:Int)/\(2:Int)<(ly:Int)):=by omega
   by_cases h0:ly=0
   ·have hl0:((ly:Int)==0)=true:=by simp[h0]
    have tO:y=0:=qjp.1 (by rw[<-Gm.out];exact h0)
    have sO:Hid (x=G):=by
     have:=HI.out.2.2.1;rw[tO,Nat.gcd_zero_right]at this;exact this
    have aW:=ae (Ot false _ x wr (ui.out.ext HE.out) HI.out.1.fB);clear h0 tO qcF;rcases qlU with h1|⟨h1,h2⟩
    all_goals
     go_wp2_with (fail);refine aW.out.mono ?_;rintro e wa ⟨k0,k1,rfl,hk,uB⟩;obtain⟨kb,ka,kn,kp,rfl,rfl⟩:=hk.form;obtain⟨⟨q0,q1,f0,f1⟩,⟨r0,r1⟩,bD,eO⟩:=l6 (M':=Mx M w.heap.size (w.heap.size+3)) (w:=w) (.bool kb) (.slice ka kn kp) (eG.out.ext (HE.out.trans uB)) (Mx.at (by omega)) (by omega) ((gI.out.trans HE.out).trans uB)
     have HF:Hid (Y6 M w (dw b x1) (dw b' x2) (.returned (.agg #[.bool kb,.slice ka kn kp])) ((wa.setCell ⟨w.heap.size+1+1,0,none⟩ (.bool kb)).setCell ⟨w.heap.size+1+1,1,none⟩ (.slice ka kn kp))):=
      ⟨_,_,_,_,rfl,by rw[uJ,uJ, <-sP.out, <-sO.out];exact(hk.kp bD).more Mx.less,eO⟩
     simp only[arr]at q0 q1;clear hk bD eO uB;go_wp2;exact bu (v:=.agg #[.bool kb,.slice ka kn kp]) (by simp[results,Tryz.results137,go_sem,r0,r1]) rfl HF.out
   ·have hl0:((ly:Int)==0)=false:=by simp;omega
    have tO:y≠0:=λe=>h0 (by rw[Gm.out,e];rfl);have hlt:x%y<y:=Nat.mod_lt _ (by omega);have aW:=ae (qjz _ _ x y wr (ui.out.ext HE.out) HI.out.1.fB HI.out.2.1.fB tO HI.out.2.2.2.1);have HN:=ae (qov HI.out.2.1.fB);clear qcF h0 tO;rcases qlU with h1|⟨h1,h2⟩
    all_goals
     go_wp2_with (fail);refine aW.out.mono ?_;rintro e wa ⟨q,r,rfl,hq,hr,uB⟩;have Af:=ae (HI.out.next uB hr);have PQ:=ae (qov hr.fB);have aZ:=ae (HE.out.trans uB);clear hq hr uB;go_wp2
     go_roundw
     case rel=>exact⟨y,x%y,Af,aZ⟩
     case measure=>rw[HN.out,PQ.out];exact hlt
  ·have h1:¬(2:Int)<(lx:Int):=by omega
   have h2:¬(2:Int)<(ly:Int):=by omega
   have IJ:x<18446744073709551616:=(lZ x 2).1 (by rw[<-PK.out];omega);have uF:y<18446744073709551616:=(lZ y 2).1 (by rw[<-Gm.out];omega);have aW:=ae (qoD _ x wr HI.out.1.fB IJ);clear qcF;go_wp2_with (fail);refine aW.out.mono ?_;rintro e wa ⟨rfl,uB⟩;have oP:=ae (qoD _ y wa (HI.out.2.1.fB.ext uB) uF);have HEa:=ae (HE.out.trans uB);clear aW uB;go_wp2_with (fail);refine oP.out.mono ?_;rintro e wb ⟨rfl,FB⟩;have HEb:=ae (HEa.out.trans FB);have uh:=ae HI.out.2.2.1;clear oP FB h1 h2;go_wp2
   go_loopw [9,11] (λcm cn wr=>∃(m k:Nat),cm=.int .u64 m/\cn=.int .u64 k/\m<18446744073709551616/\k<18446744073709551616/\Hid (Nat.gcd m k=G)/\Hid (Ext W0.drew wr)) (λ_ cn _=>(intOf cn).toNat)
   case atStart=>exact⟨x,y,rfl,rfl,IJ,uF,uh,HEb⟩
   case round=>
    clear uh HEb HEa;obtain⟨m,k,rfl,rfl,hm,hk,uh,Ur⟩:=hrel
    by_cases h0:k=0
    ·have ll:((k:Int)==0)=true:=by simp[h0]
     have kY:Hid (m=G):=by
      have:=uh.out;rw[h0,Nat.gcd_zero_right]at this;exact this
     have z8:=ae (XX (M:=Mx M w.heap.size (w.heap.size+3)) m wr (ui.out.ext Ur.out) hm);clear h0 uh HI;go_wp2_with (fail);refine z8.out.mono ?_;rintro e wc ⟨gu,rfl,hgu,hec⟩;have Em:=ae (Ot false _ m wc ((ui.out.ext Ur.out).ext hec) hgu.fB);have Jy:=ae (Ur.out.trans hec);clear z8 hgu hec;go_wp2_with (fail);refine Em.out.mono ?_;rintro e wd ⟨k0,k1,rfl,j5,kz⟩;obtain⟨kb,ka,kn,kp,rfl,rfl⟩:=j5.form;obtain⟨⟨q0,q1,f0,f1⟩,⟨r0,r1⟩,bD,eO⟩:=l6 (M':=Mx M w.heap.size (w.heap.size+3)) (w:=w) (.bool kb) (.slice ka kn kp) (eG.out.ext (Jy.out.trans kz)) (Mx.at (by omega)) (by omega) ((gI.out.trans Jy.out).trans kz)
     have HF:Hid (Y6 M w (dw b x1) (dw b' x2) (.returned (.agg #[.bool kb,.slice ka kn kp])) ((wd.setCell ⟨w.heap.size+1+1,0,none⟩ (.bool kb)).setCell ⟨w.heap.size+1+1,1,none⟩ (.slice ka kn kp))):=
      ⟨_,_,_,_,rfl,by rw[uJ,uJ, <-sP.out, <-kY.out];exact(j5.kp bD).more Mx.less,eO⟩
     simp only[arr]at q0 q1;clear j5 bD eO kz Em;go_wp2;exact bu (v:=.agg #[.bool kb,.slice ka kn kp]) (by simp[results,Tryz.results137,go_sem,r0,r1]) rfl HF.out
    ·have ll:((k:Int)==0)=false:=by simp;omega
     have zD:IntKind.u64.signed=false:=rfl;obtain⟨r,hr⟩:∃r,r=m%k:=⟨_,rfl⟩
     have RX:r<k:=by rw[hr];exact Nat.mod_lt _ (by omega)
     have jf:¬(k:Int)=0:=by omega
     have e1:(m:Int).tmod (k:Int)=r:=by rw[Int.tmod_eq_emod_of_nonneg (by omega),hr];rfl
     have e2:(m:Int)%(k:Int)=r:=by rw[hr];rfl
     have e3:IntKind.u64.wrap (r:Int)=r:=wrap_u64 r (by omega)
     have HGN:Hid (Nat.gcd k r=G):=by
      have:=uh.out;rw[Nat.gcd_comm,Nat.gcd_rec, <-hr,Nat.gcd_comm]at this;exact this
     clear hr uh HI
     go_upto_region 10 with(fail)
     refine gB EO 5 (by kernel_rfl) trivial (λhHeld=>?_);(refine cB [0,1,2,3,4] ?_;(iterate 5 (refine bZ (v:=?_) ?_ ?_;rotate_left 1;(intro wS hSw;obtain Q9:=hSw;go_simp;try with_reducible rfl);(try simp only[Act.put,aB,aC,aD])));refine cK ?_);((refine aO 5 ?_;intro K hK);go_simp;(refine hK.out _ _ (λh=>absurd rfl h) ?_);clear hK K;refine dX ?_);go_wp2
     go_roundw
     case rel=>exact⟨k,r,rfl,rfl,hk,by omega,HGN,Ur.out.drew⟩
     case measure=>simp[intOf];omega
abbrev zI:Array Value:= #[.bool false,.slice none 0 0]
structure I4 where
 b:Bool
 a:Option Addr
 n:Nat
 p:Nat
def C2(g:Nat)(x:I4)(w:World):Prop:=w.cell? ⟨g,0,none⟩=some (.bool x.b)/\w.cell? ⟨g,1,none⟩=some (.slice x.a x.n x.p)
end Go.Proofs.YtmcfpnmoklnhoaaGreat
