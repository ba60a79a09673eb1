/- Nb -/
import Derived.Test.YtmcfpnmoklnhoaaGreatNa
import Derived.Scope
set_option linter.unusedVariables false
set_option maxRecDepth 100000
set_option maxHeartbeats 400000000
set_option linter.unusedSimpArgs false
namespace Go.Proofs.YtmcfpnmoklnhoaaGreat
open Go.RowKit
theorem qmZ{U:Nat->Nat}{T i k:Nat}(hU:nv U T<4294967296^k)(hi:k<=i)(hT:i<T):U i=0:=by
 refine Classical.byContradiction λhc=>?_;have h1:=QZ U i hc
 have h2:nv U (i+1)<=nv U T:=by
  obtain⟨r,rfl⟩:∃r,T=i+1+r:=⟨T-(i+1),by omega⟩;have:=wW U (i+1) r;omega
 have h3:4294967296^k<=4294967296^i:=Nat.pow_le_pow_right (by decide) hi;omega
theorem qxf{U:Nat->Nat}{T j m:Nat}(hT:j+m<=T)(hU:nv U T<4294967296^(j+m)):nv U T=nv U j+4294967296^j*nv (λi=>U (j+i)) m:=by
 obtain⟨r,rfl⟩:∃r,T=j+m+r:=⟨T-(j+m),by omega⟩;rw[wW U (j+m) r,nV (λi=>U (j+m+i)) (λ_=>0) r (λi hi=>qmZ hU (by omega) (by omega)),ML,Nat.mul_zero,Nat.add_zero,wW]
theorem qzu(N a b c x:Nat):N+c*x+b*(x*4294967296)+a*(x*4294967296*4294967296)=((a*4294967296+b)*4294967296+c)*x+N:=by
 have e1:b*(x*4294967296)=b*x*4294967296:=(Nat.mul_assoc _ _ _).symm
 have e2:a*(x*4294967296*4294967296)=a*x*4294967296*4294967296:=by rw[<-Nat.mul_assoc, <-Nat.mul_assoc]
 have e3:((a*4294967296+b)*4294967296+c)*x=a*x*4294967296*4294967296+b*x*4294967296+c*x:=by
  rw[Nat.add_mul,Nat.mul_right_comm,Nat.add_mul (a*4294967296),Nat.mul_right_comm a,Nat.add_mul (a*x*4294967296)]
 omega
theorem qxh(p:Nat->Nat)(n:Nat)(hn:2<=n):nv p (n+1)=((p n*4294967296+p (n-1))*4294967296+p (n-2))*4294967296^(n-2)+nv p (n-2):=by
 obtain⟨m,rfl⟩:∃m,n=m+2:=⟨n-2,by omega⟩;rw[q9,q9,q9];show nv p m+p m*4294967296^m+p (m+1)*4294967296^(m+1)+p (m+2)*4294967296^(m+2)=((p (m+2)*4294967296+p (m+1))*4294967296+p m)*4294967296^m+nv p m;rw[Nat.pow_succ 4294967296 (m+1),Nat.pow_succ];exact qzu _ _ _ _ _
theorem qxi(p:Nat->Nat)(n:Nat)(hn:2<=n):nv p n=(p (n-1)*4294967296+p (n-2))*4294967296^(n-2)+nv p (n-2):=by
 obtain⟨m,rfl⟩:∃m,n=m+2:=⟨n-2,by omega⟩;rw[q9,q9];show nv p m+p m*4294967296^m+p (m+1)*4294967296^(m+1)=(p (m+1)*4294967296+p m)*4294967296^m+nv p m;rw[Nat.pow_succ,Nat.add_mul,Nat.mul_comm (4294967296^m) 4294967296, <-Nat.mul_assoc];omega
structure uL(X Y T m k:Nat)(U Q:Nat->Nat):Prop where
 eq:nv U T+Y*(4294967296^k*nv (λt=>Q (k+t)) (m-k))=X
 lt:nv U T<Y*4294967296^k
theorem uL.congr{X Y T m k:Nat}{U Q Q':Nat->Nat}(h:uL X Y T m k U Q)(hq:∀i,k<=i->Q' i=Q i):uL X Y T m k U Q':=
 ⟨by rw[nV (λt=>Q' (k+t)) (λt=>Q (k+t)) _ (λi _=>hq _ (by omega))];exact h.eq,h.lt⟩
theorem uL.part{X Y T m j n:Nat}{U Q:Nat->Nat}(h:uL X Y T m (j+1) U Q)(hY:Y<4294967296^n)(hT:j+(n+1)<=T):nv U T=nv U j+4294967296^j*nv (λi=>U (j+i)) (n+1)/\nv (λi=>U (j+i)) (n+1)<Y*4294967296:=by
 have h1:nv U T<4294967296^(j+(n+1)):=by
  refine Nat.lt_of_lt_of_le h.lt ?_;rw[show(4294967296:Nat)^(j+(n+1))=4294967296^n*4294967296^(j+1) by rw[<-Nat.pow_add];congr 1;omega];exact Nat.mul_le_mul_right _ (Nat.le_of_lt hY)
 have h2:=qxf hT h1;refine⟨h2,?_⟩;have h3:=h.lt;rw[h2,Nat.pow_succ, <-Nat.mul_assoc,Nat.mul_right_comm]at h3
 have h4:4294967296^j*nv (λi=>U (j+i)) (n+1)<4294967296^j*(Y*4294967296):=by
  rw[Nat.mul_comm (4294967296^j) (Y*4294967296)];omega
 exact Nat.lt_of_mul_lt_mul_left h4
theorem uL.next{X Y T m j n q R:Nat}{U U' Q:Nat->Nat}(h:uL X Y T m (j+1) U Q)(hY:Y<4294967296^n)(hT:j+(n+1)<=T)(hj:j<m)(hq:Q j=q)(hU:∀i,i<j\/j+(n+1)<=i->U' i=U i)(hR:nv (λi=>U' (j+i)) (n+1)=R)(he:R+q*Y=nv (λi=>U (j+i)) (n+1))(hlt:R<Y)(hd:∀i,i<T->U i<4294967296):uL X Y T m j U' Q:=by
 obtain⟨h1,h2⟩:=h.part hY hT
 have hz:∀i,j+(n+1)<=i->i<T->U i=0:=λi h3 h4=>by
  have h5:nv U T<4294967296^(j+(n+1)):=by
   refine Nat.lt_of_lt_of_le h.lt ?_;rw[show(4294967296:Nat)^(j+(n+1))=4294967296^n*4294967296^(j+1) by rw[<-Nat.pow_add];congr 1;omega];exact Nat.mul_le_mul_right _ (Nat.le_of_lt hY)
  exact qmZ h5 h3 h4
 have hv:nv U' T=nv U j+4294967296^j*R:=by
  obtain⟨r,rfl⟩:∃r,T=j+(n+1)+r:=⟨T-(j+(n+1)),by omega⟩;rw[wW U' (j+(n+1)) r,nV (λi=>U' (j+(n+1)+i)) (λ_=>0) r (λi hi=>by rw[hU _ (.inr (by omega))];exact hz _ (by omega) (by omega)),ML,Nat.mul_zero,Nat.add_zero,wW,hR,nV U' U j λi hi=>hU i (.inl hi)]
 have hl:nv U j<4294967296^j:=pO U j λi hi=>hd i (by omega);refine⟨?_,?_⟩
 ·rw[<-h.eq,hv,h1, <-he];obtain⟨r,hr⟩:∃r,m-j=r+1:=⟨m-j-1,by omega⟩;rw[hr,Q0,show m-(j+1)=r by omega,nV (λi=>Q (j+(i+1))) (λt=>Q (j+1+t)) r (λi _=>by rw[show j+(i+1)=j+1+i by omega])];show _+Y*(4294967296^j*(Q (j+0)+_))=_;rw[Nat.add_zero,hq,Nat.pow_succ];generalize nv (λt=>Q (j+1+t)) r=z;generalize 4294967296^j=x;rw[Nat.mul_add x,Nat.mul_add Y,Nat.mul_add x];rw[show Y*(x*q)=x*(q*Y) by rw[Nat.mul_left_comm,Nat.mul_comm Y],show x*(4294967296*z)=x*4294967296*z from(Nat.mul_assoc _ _ _).symm];omega
 ·rw[hv,Nat.mul_comm Y];have:4294967296^j*(R+1)<=4294967296^j*Y:=Nat.mul_le_mul_left _ hlt;rw[Nat.mul_add,Nat.mul_one]at this;omega
theorem qr3{P Y q R:Nat}{b:Bool}{x:Nat}(hY:0<Y)(h1:P/Y<=q)(h2:q<=P/Y+1)(he:R+q*Y=P+(if b then 1 else 0)*x)(hR:R<x):(b=false->R+q*Y=P/\R<Y)/\(b=true->P<q*Y/\0<q/\P-(q-1)*Y<Y/\(q-1)*Y<=P):=by
 obtain⟨h3,h4⟩:=qr4 hY h1 h2;have hdm:=Nat.div_add_mod' P Y;have Mc:=Nat.mod_lt P hY;generalize P/Y=q0 at*;generalize P%Y=r0 at*;refine⟨λhb=>?_,λhb=>?_⟩
 ·subst hb;simp only[Bool.false_eq_true,if_false,Nat.zero_mul,Nat.add_zero]at he;have h5:=h3 (by omega);rw[h5]at he;exact⟨by rw[h5];exact he,by omega⟩
 ·subst hb;simp only[if_true,Nat.one_mul]at he
  have h5:P<q*Y:=by omega
  have h6:=h4 h5;rw[h6,Nat.add_sub_cancel];exact⟨by rw[<-h6];exact h5,by omega,by omega,by omega⟩
theorem qr1{P Y q R R2 k x:Nat}(he:R+q*Y=P+x)(ha:R2+k*x=R+Y)(hq:0<q)(Eb:R2<x)(hle:(q-1)*Y<=P)(hlt:P-(q-1)*Y<Y)(hYx:Y<=x):R2+(q-1)*Y=P/\R2<Y:=by
 obtain⟨p,rfl⟩:∃p,q=p+1:=⟨q-1,by omega⟩;rw[Nat.add_sub_cancel]at hle hlt⊢;rw[Nat.add_mul,Nat.one_mul]at he
 have h1:R2+k*x+p*Y=P+x:=by omega
 have hk:k=1:=by
  rcases Nat.lt_or_ge k 1 with h|h
  ·have:k=0:=by omega
   subst this;omega
  ·rcases Nat.lt_or_ge 1 k with h2|h2
   ·have:2*x<=k*x:=Nat.mul_le_mul_right _ h2;omega
   ·omega
 subst hk;omega
theorem qr2{x y s Q R:Nat}(hy:0<y)(h:R+y*2^s*Q=x*2^s)(hR:R<y*2^s):Q=x/y/\R/2^s=x%y:=by
 have hp:0<2^s:=Nat.pow_pos (by decide)
 have h1:x*2^s/(y*2^s)=Q:=by
  rw[<-h,Nat.add_mul_div_left _ _ (Nat.mul_pos hy hp),Nat.div_eq_of_lt hR,Nat.zero_add]
 have h2:x*2^s%(y*2^s)=R:=by
  rw[<-h,Nat.add_mul_mod_self_left,Nat.mod_eq_of_lt hR]
 rw[Nat.mul_div_mul_right _ _ hp]at h1;rw[Nat.mul_mod_mul_right]at h2;exact⟨h1.symm,by rw[<-h2,Nat.mul_div_cancel _ hp]⟩
theorem qse{V:Nat->Nat}{n s:Nat}(hn:0<n)(hV:∀i,i<n->V i<4294967296)(ht:V (n-1)≠0)(hs:s<32)(hl:V (n-1)*2^s<4294967296):az (nv V n*2^s)=n:=by
 obtain⟨m,rfl⟩:∃m,n=m+1:=⟨n-1,by omega⟩;rw[Nat.add_sub_cancel]at ht hl;have hp:0<2^s:=Nat.pow_pos (by decide);refine Nat.le_antisymm ((o9 _ _).2 ?_) ?_
 ·obtain⟨t,htt⟩:∃t,32=s+t:=⟨32-s,by omega⟩
  have e0:(4294967296:Nat)=2^t*2^s:=by rw[<-Nat.pow_add,Nat.add_comm, <-htt]
  have h1:V m<2^t:=by
   rw[e0]at hl;exact Nat.lt_of_mul_lt_mul_right hl
  have h2:nv V (m+1)<(V m+1)*4294967296^m:=by
   have:=pO V m (λi hi=>hV i (by omega));rw[q9,Nat.add_mul,Nat.one_mul];omega
  have h3:nv V (m+1)*2^s<2^t*4294967296^m*2^s:=
   Nat.mul_lt_mul_of_pos_right (Nat.lt_of_lt_of_le h2 (Nat.mul_le_mul_right _ h1)) hp
  rw[show 2^t*4294967296^m*2^s=4294967296^(m+1) by rw[Nat.mul_right_comm, <-e0,Nat.pow_succ,Nat.mul_comm]]at h3;exact h3
 ·have h1:az (nv V (m+1))=m+1:=Ug V (m+1) hV (.inr ht);have h2:nv V (m+1)<=nv V (m+1)*2^s:=Nat.le_mul_of_pos_right _ hp;have:=ji h2;omega
def Hy(M:Nat->Prop)(w:World)(x y:Nat)(e:Ending)(w':World):Prop:=∃q r,e=.returned (.tuple #[q,r])/\gT M w' q (x/y)/\gT M w' r (x%y)/\Ext w w'
theorem qr7{M:Nat->Prop}(v v':Value)(x y:Nat)(w:World)(hM:Mb M w)(h:fA M w v x)(h':fA M w v' y)(hlt:x<y):
 Calls Tryz.prog 162 #[v,v'] w (Hy M w x y):=by
 have aO:=Lib.hid (EM v' y w hM h')
 go_enter Tryz.func162,Tryz.ntmps162
 go_wp2;refine wp_scope_straight ?_;go_wp2_with (fail);refine aO.out.mono ?_;rintro e w1 ⟨u1,rfl,hu1,af⟩;have aS:=JI v u1 x y w1 (h.ext af) hu1.eH;rw[TZ hlt]at aS;have nH:=Lib.hid aS;clear aS aO;go_wp2_with (fail);refine nH.out.mono ?_;rintro e w2 ⟨rfl,aA⟩;have yG:=Lib.hid (EM v x w2 ((hM.ext af).ext aA) ((h.ext af).ext aA));have aU:=Lib.hid (af.trans aA);clear nH;go_wp2_with (fail);refine yG.out.mono ?_;rintro e w3 ⟨u3,rfl,Qm,aT⟩;have HF:Hid (Hy M w x y (.returned (.tuple #[.slice none 0 0,u3])) w3):=⟨_,_,rfl,by rw[Nat.div_eq_of_lt hlt];exact gT.nil M w3,by rw[Nat.mod_eq_of_lt hlt];exact Qm,aU.out.trans aT⟩;clear yG hu1 Qm af aA aT h h' hM;go_wp2;exact bodyPost_ret (v:=.tuple #[.slice none 0 0,u3]) (by simp[results,Tryz.results162,go_sem]) rfl HF.out
theorem qg6{x y:Nat}(h:y<=x):kZ x y=0\/kZ x y=1:=by
 unfold kZ;rw[if_neg (by omega)]
 split
 ·exact .inr rfl
 ·exact .inl rfl
theorem qr8{M:Nat->Prop}(v v':Value)(x y:Nat)(w:World)(hM:Mb M w)(h:fA M w v x)(h':fA M w v' y)(hle:y<=x)(h1:az y=1):
 Calls Tryz.prog 162 #[v,v'] w (Hy M w x y):=by
 have rU:y≠0:=λe=>by rw[e,qhC]at h1;omega
 have hyB:y<4294967296:=by have:=Al y;rw[h1]at this;simpa using this
 have aO:=Lib.hid (EM v' y w hM h')
 go_enter Tryz.func162,Tryz.ntmps162
 go_wp2;refine wp_scope_straight ?_;go_wp2_with (fail);refine aO.out.mono ?_;rintro e w1 ⟨u1,rfl,hu1,af⟩;have nH:=Lib.hid (JI v u1 x y w1 (h.ext af) hu1.eH);obtain⟨V,hV,Jb,_⟩:=hu1.len;rw[h1]at hV Jb;obtain⟨ua,uc,rfl⟩:=kE hV;clear aO;go_wp2_with (fail);refine nH.out.mono ?_;rintro e w2 ⟨rfl,aA⟩
 have qt4:¬kZ x y<0:=by rcases qg6 hle with h|h<;>omega
 generalize kZ x y=cc at*;obtain⟨b,o,rfl,hb,hc⟩:=mU (hV.ext aA) (by omega);have c0:=hc 0 (by omega);rw[Nat.add_zero,show V 0=y by have:=Jb;simp[nv]at this;exact this]at c0;have yG:=Lib.hid (qwR v x y w2 ((hM.ext af).ext aA) ((h.ext af).ext aA) (by omega) hyB);have aU:=Lib.hid (af.trans aA);have HM:=Lib.hid hM;clear nH hu1 hV Jb af aA h h' hM hc;go_wp2_with (fail);refine yG.out.mono ?_;rintro e w3 ⟨q,rfl,hq,aT⟩;have hr:x%y<y:=Nat.mod_lt _ (by omega);have eP:=Lib.hid (aU.out.trans aT);have HQ:=Lib.hid hq;have C9:=Lib.hid (VG (M:=M) (x%y) w3 (HM.out.ext eP.out) (by omega));have kH:Hid (∃rr,rr=x%y):=⟨_,rfl⟩;obtain⟨rr,yj⟩:=kH.out;rw[<-yj]at hr C9;have ou:=Lib.hid yj;clear yG aT hq c0 hb kH;rw[<-yj];clear yj;go_wp2_with (fail);refine C9.out.mono ?_;rintro e w4 ⟨r,rfl,hr4,aW⟩;have HF:Hid (Hy M w x y (.returned (.tuple #[q,r])) w4):=⟨q,r,rfl,HQ.out.ext aW,by rw[<-ou.out];exact hr4,eP.out.trans aW⟩;clear C9 hr4 aW;go_wp2;exact bodyPost_ret (v:=.tuple #[q,r]) (by simp[results,Tryz.results162,go_sem]) rfl HF.out
structure Np(gu j n bV oV:Nat)(U V:Nat->Nat)(w:World):Prop where
 a:w.cell? ⟨gu,j+n,none⟩=some (.int .u32 (U (j+n)))
 b:w.cell? ⟨gu,j+(n-1),none⟩=some (.int .u32 (U (j+(n-1))))
 c:w.cell? ⟨gu,j+(n-2),none⟩=some (.int .u32 (U (j+(n-2))))
 d:w.cell? ⟨bV,oV+(n-1),none⟩=some (.int .u32 (V (n-1)))
 e:w.cell? ⟨bV,oV+(n-2),none⟩=some (.int .u32 (V (n-2)))
theorem Np.ext{gu j n bV oV:Nat}{U V:Nat->Nat}{w w':World}(h:Np gu j n bV oV U V w)(he:Ext w w'):Np gu j n bV oV U V w':=by
 have h1:=World.block_lt_of_cell? _ _ h.a;have h2:=World.block_lt_of_cell? _ _ h.d;exact⟨by rw[he.cell h1];exact h.a,by rw[he.cell h1];exact h.b,by rw[he.cell h1];exact h.c,by rw[he.cell h2];exact h.d,by rw[he.cell h2];exact h.e⟩
theorem qr0{x y s n la:Nat}{U Q:Nat->Nat}(hn:n=az y)(hy:y≠0)(zV:la=az x)(hle:n<=la)(hU:nv U (la+1)=x*2^s):uL (x*2^s) (y*2^s) (la+1) (la+1-n) (la+1-n) U Q:=by
 have hp:0<2^s:=Nat.pow_pos (by decide);refine⟨?_,?_⟩
 ·rw[Nat.sub_self];show nv U (la+1)+y*2^s*(4294967296^(la+1-n)*0)=_;rw[Nat.mul_zero,Nat.mul_zero,Nat.add_zero,hU]
 rw[hU];have h1:=qhA y hy;have h2:=Al x;have hpos:=Uh hy;rw[<-hn]at h1 hpos;rw[<-zV]at h2
 have h3:4294967296^la<=y*4294967296^(la+1-n):=by
  rw[show(4294967296:Nat)^la=4294967296^(n-1)*4294967296^(la+1-n) by rw[<-Nat.pow_add];congr 1;omega];exact Nat.mul_le_mul_right _ h1
 rw[Nat.mul_right_comm];exact Nat.mul_lt_mul_of_pos_right (Nat.lt_of_lt_of_le h2 h3) hp
theorem qsE{P V u2 u1 u0 v1 v2 k lp lv:Nat}(hP:P=((u2*4294967296+u1)*4294967296+u0)*4294967296^k+lp)(hV:V=(v1*4294967296+v2)*4294967296^k+lv)(gI:lv<4294967296^k)(hv2:v2<4294967296)(hlt:P<V*4294967296):u2<=v1:=by
 refine Classical.byContradiction λhc=>?_
 have h1:V<(v1+1)*4294967296*4294967296^k:=by
  have:(v1*4294967296+v2+1)*4294967296^k<=(v1+1)*4294967296*4294967296^k:=Nat.mul_le_mul_right _ (by omega);rw[Nat.add_mul _ 1,Nat.one_mul]at this;omega
 have h2:(v1+1)*4294967296*4294967296*4294967296^k<=((u2*4294967296+u1)*4294967296+u0)*4294967296^k:=Nat.mul_le_mul_right _ (by omega)
 have h3:(v1+1)*4294967296*4294967296*4294967296^k=(v1+1)*4294967296*4294967296^k*4294967296:=by rw[Nat.mul_right_comm]
 omega
theorem qr6{M:Nat->Prop}(v v':Value)(x y:Nat)(w:World)(hM:Mb M w)(h:fA M w v x)(h':fA M w v' y)(hle:y<=x)(h2:2<=az y)(hL:az x+1<=1099511627776):
 Calls Tryz.prog 162 #[v,v'] w (Hy M w x y):=by
 obtain⟨i0,hi,hz0,hz1,hz2⟩:=info_parts Tryz.EK
 have rU:y≠0:=λe=>by rw[e,qhC]at h2;omega
 have P6:az y<=az x:=ji hle;have aO:=Lib.hid (EM v' y w hM h')
 go_enter Tryz.func162,Tryz.ntmps162
 go_wp2;refine wp_scope_straight ?_;go_wp2_with (fail);refine aO.out.mono ?_;rintro e w1 ⟨u1,rfl,hu1,af⟩;have nH:=Lib.hid (JI v u1 x y w1 (h.ext af) hu1.eH);obtain⟨V0,F7,qbe,Ja⟩:=hu1.len;obtain⟨n,hn⟩:∃n,n=az y:=⟨_,rfl⟩;rw[<-hn]at F7 qbe Ja h2 P6;obtain⟨ua,uc,rfl⟩:=kE F7;have hVt:V0 (n-1)≠0:=Ja.resolve_left (by omega);have YQ:=Lib.hid hVt;have HN:=Lib.hid hn;have YR:=Lib.hid qbe;have Od:=Lib.hid F7;have HX:=Lib.hid h;have HM:=Lib.hid hM;have aL:=Lib.hid af;have KD:=Lib.hid rU;have qpN:=Lib.hid P6;have Sl:=Lib.hid hle;clear aO hn Ja hVt qbe F7 hu1 h h' hM af rU P6 hle;go_wp2_with (fail);refine nH.out.mono ?_;rintro e w2 ⟨rfl,aA⟩
 have qt4:¬kZ x y<0:=by rcases qg6 Sl.out with h|h<;>omega
 generalize kZ x y=cc at*;obtain⟨b,o,rfl,hb,hc⟩:=mU (Od.out.ext aA) (by omega);have c0:=hc (n-1) (by omega);have hVl:=Od.out.2.1 (n-1) (by omega);have yG:=Lib.hid (qqZ (V0 (n-1)) w2 YQ.out hVl);have aU:=Lib.hid (aL.out.trans aA);have Im:=Lib.hid (Od.out.ext aA);have qfW:=Lib.hid Od.out.2.1
 have mJ:((n:Int)==1)=false:=by simp;omega
 have eu:n<=1099511627776:=Im.out.1
 have k1:(0:Int)<=(n:Int)-1:=by omega
 have k2:((n:Int)-1).toNat=n-1:=by omega
 have k3:(n:Int)-1<(n:Int):=by omega
 clear nH aA hc Od;go_wp2_with (fail);refine yG.out.mono ?_;rintro e w3 ⟨s,rfl,⟨dP,hs2,qR⟩,rfl⟩;have ky:=qse (by omega) qfW.out YQ.out dP qR;rw[YR.out]at ky;have Di:=Lib.hid ky;clear ky;have C9:=Lib.hid (qmB (M:=M) _ y s w3 (HM.out.ext aU.out) ⟨_,_,Im.out,YR.out⟩ dP (by rw[Di.out];exact eu));clear yG c0 hb hs2 qR;go_wp2_with (fail);refine C9.out.mono ?_;rintro e w4 ⟨u4,rfl,Qn,aW⟩;obtain⟨V,hV,Jb,Ja⟩:=Qn.len;rw[Di.out]at hV Jb Ja;obtain⟨va,vc,rfl⟩:=kE hV;have qqr:Hid (V (n-1)≠0):=Ja.resolve_left (by omega);have fV:=Lib.hid (aU.out.trans aW);have HV:=Lib.hid hV;have Kw:=Lib.hid Jb;have CT5:=Lib.hid (EM v x w4 (HM.out.ext fV.out) (HX.out.ext fV.out));clear C9 Qn aW Ja hV Jb YQ qfW YR Im hVl;go_wp2_with (fail);refine CT5.out.mono ?_;rintro e w5 ⟨u5,rfl,hu5,aR⟩;obtain⟨_,hA,_,_⟩:=hu5.len;obtain⟨la,zV⟩:∃la,la=az x:=⟨_,rfl⟩
 have P6:n<=la:=by rw[zV,HN.out];exact(by have:=qpN.out;rw[HN.out]at this;exact this)
 rw[<-zV]at hA hL;have Kg:=Lib.hid zV;obtain⟨aa,ac,rfl⟩:=kE hA;have eD:=Lib.hid (fV.out.trans aR);have SY:=Lib.hid (HV.out.ext aR);clear CT5 hu5 aR hA HV zV
 go_wp2_with (first|(refine wpList_make_full _ rfl _ _ _ rfl w5.heap.size 155 i0 (.int .u32 0) 1 Tryz.underlying28 hi hz0 hz1 .i64 .i64 _ _ (la+1) rfl rfl ?c4 ?c5 ?c2 ?c3 ?c6 ?_))
 case c2=>rw[hz2];omega
 case c3=>unfold maxLen;omega
 case c4=>go_num
 case c5=>go_num
 case c6=>simp
 intro w6 hown hgrow;have HD6:Hid (iP w6 w5.heap.size (la+1) (λ_=>0)):=⟨ak.Am hown,λ_ _=>(by decide:0<4294967296)⟩;have Kb:=Lib.hid (lM hgrow)
 have Gt:az (x*2^s)<=la+1:=by
  rw[o9,Nat.pow_succ,Kg.out];refine Nat.mul_lt_mul'' (Al x) ?_;exact Nat.lt_of_lt_of_le (Nat.pow_lt_pow_right (by decide) dP) (by decide:2^32<=4294967296)
 have CT6:=Lib.hid (qmB (M:=M) v x s w6 (HM.out.ext (eD.out.trans Kb.out)) (HX.out.ext (eD.out.trans Kb.out)) dP (by omega));clear hown hgrow;go_wp2_with (fail);refine CT6.out.mono ?_;rintro e w7 ⟨u7,rfl,Qo,fE⟩;obtain⟨Xd,Ps,xY,_⟩:=Qo.len;obtain⟨lx,qbT⟩:∃lx,lx=az (x*2^s):=⟨_,rfl⟩;rw[<-qbT]at Ps xY Gt;obtain⟨xa,xc,rfl⟩:=kE Ps
 have qvz:0<lx:=by
  rw[qbT];exact Uh (Nat.ne_of_gt (Nat.mul_pos (Nat.lt_of_lt_of_le (Nat.pos_of_ne_zero KD.out) Sl.out) (Nat.pow_pos (by decide))))
 obtain⟨xb,xo,rfl,hxb,Qv⟩:=mU Ps qvz;have xS:=HD6.out.ext fE;have DC:=Lib.hid Qv;have FC:=Lib.hid xY;have mr:=Lib.hid Ps.2.1;have Kc:=Lib.hid (Kb.out.trans fE);clear CT6 Qo fE Ps Qv HD6 qbT xY
 go_wp2_with (refine Rv rfl (.tmp 56) (.tmp 59) _ _ rfl 155 Tryz.underlying28 (by rw[hi];simp[hz1]) _ _ _ _ _ _ rfl rfl w5.heap.size 0 155 (la+1) _ xS.1 lx ?k1 (λi=>.int .u32 (Xd i)) ?k2 ?k3 ?k4 ?_)
 case k1=>show _=min _ _;omega
 case k2=>exact⟨xb,xo,⟨rfl,rfl⟩,DC.out⟩
 case k3=>omega
 case k4=>exactλj hj=>rfl
 intro w8 Lp LY;have hD8:=VM Lp (λ_ _=>(by decide:0<4294967296)) mr.out;have UC:=qna lx (la+1) Xd (by omega);generalize (λi=>if 0<=i/\i<0+lx then Xd (i-0)else 0)=U0 at hD8 UC;rw[FC.out]at UC;have XD:=Lib.hid hD8;have qeA:Hid (Ext w5 w8):=Kc.out.grown LY (λk hk=>by cases hk;exact Nat.le_refl _);have o5:=Lib.hid (qr0 (Q:=λ_=>0) HN.out KD.out Kg.out P6 UC);clear Lp LY hD8 UC xS DC mr Kc
 have m1:(la:Int)+1-(n:Int)=((la+1-n:Nat):Int):=by omega
 obtain⟨m,hm⟩:∃m,m=la+1-n:=⟨_,rfl⟩;rw[<-hm]at o5 m1;have jG:=Lib.hid hm
 have vH:m+n=la+1:=by omega
 clear hm
 go_wp2_with (first|(refine wpList_make_full _ rfl _ _ _ rfl w8.heap.size 155 i0 (.int .u32 0) 1 Tryz.underlying28 hi hz0 hz1 .i64 .i64 _ _ m rfl rfl ?c4 ?c5 ?c2 ?c3 ?c6 ?_))
 case c2=>rw[hz2];omega
 case c3=>unfold maxLen;omega
 case c4=>first|go_num|(simp;omega)
 case c5=>first|go_num|(simp;omega)
 case c6=>simp
 intro w9 hown hgrow;have HQ9:Hid (iP w9 w8.heap.size m (λ_=>0)):=⟨ak.Am hown,λ_ _=>(by decide:0<4294967296)⟩;have XJ:=Lib.hid (lM hgrow);have AR:=Lib.hid (XD.out.ext XJ.out);have qkM:w5.heap.size<w8.heap.size:=XD.out.1.lt;clear hown hgrow XD;go_wp2;refine wp_label ?_;go_wp2
 go_loopw [13] (λi wr=>∃(k:Nat)(U Q:Nat->Nat),k<=m/\i=.int .i64 ((k:Int)-1)/\Hid (iP wr w5.heap.size (la+1) U)/\Hid (iP wr w8.heap.size m Q)/\Hid (uL (x*2^s) (y*2^s) (la+1) m k U Q)/\Hid (Ext w5 wr)) (λi _=>(intOf i+1).toNat)
 case atStart=>exact⟨m,U0,_,Nat.le_refl _,rfl,AR,HQ9,o5,qeA.out.trans XJ.out⟩
 case round=>
  clear o5 HQ9 AR XJ;obtain⟨k,U,Q,hk,rfl,tQ,tO,nI,iQ⟩:=hrel
  by_cases fJ:k=0
  ·subst fJ;have HYP:Hid (fA M wr (.slice (some ⟨w8.heap.size,0,none⟩) m m) (nv Q m)):=⟨m,Q,dK.G5 tO.out.1 ((HM.out.ext (eD.out.trans qeA.out)).new (Nat.le_refl _)) m (Nat.le_refl _) (by omega) (Nat.le_refl _) (by unfold maxLen;omega) (λi _=>rfl) tO.out.2,rfl⟩;have HUP:Hid (fA M wr (.slice (some ⟨w5.heap.size,0,none⟩) (la+1) (la+1)) (nv U (la+1))):=⟨la+1,U,dK.G5 tQ.out.1 ((HM.out.ext eD.out).new (Nat.le_refl _)) (la+1) (Nat.le_refl _) (by omega) (Nat.le_refl _) (by unfold maxLen;omega) (λi _=>rfl) tQ.out.2,rfl⟩
   have NB:Hid (nv Q m=x/y/\nv U (la+1)/2^s=x%y):=by
    have h1:=nI.out.eq;have h2:=nI.out.lt;rw[Nat.pow_zero,Nat.one_mul,Nat.sub_zero]at h1;rw[Nat.pow_zero,Nat.mul_one]at h2;rw[nV (λt=>Q (0+t)) Q m (λi _=>by rw[Nat.zero_add])]at h1;exact qr2 (Nat.pos_of_ne_zero KD.out) h1 h2
   have CT7:=Lib.hid (EM (.slice (some ⟨w8.heap.size,0,none⟩) m m) (nv Q m) wr (HM.out.ext (eD.out.trans iQ.out)) HYP.out);clear nI tO tQ;go_wp2_with (fail);refine CT7.out.mono ?_;rintro e wa ⟨qv,rfl,hqv,sN⟩;have CT8:=Lib.hid (qwW (M:=M) _ (nv U (la+1)) s wa ((HM.out.ext (eD.out.trans iQ.out)).ext sN) (HUP.out.ext sN) dP);have HQV:=Lib.hid hqv;have dW:=Lib.hid ((eD.out.trans iQ.out).trans sN);clear CT7 hqv sN;go_wp2_with (fail);refine CT8.out.mono ?_;rintro e wb ⟨rv,rfl,hrv,Em⟩;have HF:Hid (Hy M w x y (.returned (.tuple #[qv,rv])) wb):=⟨qv,rv,rfl,by rw[<-NB.out.1];exact HQV.out.ext Em,by rw[<-NB.out.2];exact hrv,dW.out.trans Em⟩;clear CT8 hrv Em;go_wp2;exact bodyPost_ret (v:=.tuple #[qv,rv]) (by simp[results,Tryz.results162,go_sem]) rfl HF.out
  ·obtain⟨j,hj⟩:∃j,j=k-1:=⟨k-1,rfl⟩
   obtain rfl:k=j+1:=by omega
   rw[show((j+1:Nat):Int)-1=(j:Int) by omega];obtain⟨vb,vo,rfl,Jv,Qq⟩:=mU SY.out (by omega)
   have hvw:vb<wr.heap.size:=by have:=iQ.out.size;omega
   have YZ:Hid (y*2^s<4294967296^n):=by rw[<-Di.out];exact Al _
   obtain⟨uA,LF⟩:=nI.out.part YZ.out (by omega)
   have q1:(j:Int)<=(j:Int)+(n:Int)+1:=by omega
   have q2:(j:Int)+(n:Int)+1<=(la:Int)+1:=by omega
   have q3:¬la+1=j:=by omega
   clear hj
   go_upto_region 17 with(fail)
   rw[show j+n+1-j=n+1 by omega];have d5:Np w5.heap.size j n vb vo U V wr:=⟨tQ.out.1.cell (by omega),tQ.out.1.cell (by omega),tQ.out.1.cell (by omega),by rw[iQ.out.cell Jv];exact Qq _ (by omega),by rw[iQ.out.cell Jv];exact Qq _ (by omega)⟩;have fO:=Lib.hid (d5.ext (Ext.refl _).drew);have Ip:=Lib.hid SY.out.2.1;obtain⟨e2,aA⟩:∃e,e=U (j+n):=⟨_,rfl⟩;obtain⟨e1,af⟩:∃e,e=U (j+(n-1)):=⟨_,rfl⟩;obtain⟨e0,kM⟩:∃e,e=U (j+(n-2)):=⟨_,rfl⟩;obtain⟨f1,fo⟩:∃e,e=V (n-1):=⟨_,rfl⟩;obtain⟨f0,fB⟩:∃e,e=V (n-2):=⟨_,rfl⟩;have I7:=qxh (λi=>U (j+i)) n h2;have UE:=qxi V n h2;have qkL:nv (λi=>U (j+i)) (n-2)<4294967296^(n-2):=pO _ _ λi hi=>tQ.out.2 _ (by omega);have qbR:nv V (n-2)<4294967296^(n-2):=pO _ _ λi hi=>Ip.out _ (by omega);rw[<-Kw.out]at LF
   have qkh:0<f1:=by rw[fo];exact Nat.pos_of_ne_zero qqr.out
   have gX:e2<4294967296:=by rw[aA];exact tQ.out.2 _ (by omega)
   have hb1:e1<4294967296:=by rw[af];exact tQ.out.2 _ (by omega)
   have jZ:e0<4294967296:=by rw[kM];exact tQ.out.2 _ (by omega)
   have dR:f1<4294967296:=by rw[fo];exact Ip.out _ (by omega)
   have mH:f0<4294967296:=by rw[fB];exact Ip.out _ (by omega)
   simp only[<-aA, <-af, <-kM]at I7;rw[<-fo, <-fB]at UE;obtain⟨UM,qkf⟩:=qsD I7 UE qkL qbR qkh LF;have oJ:e2<=f1:=qsE I7 UE qbR mH LF
   have qkg:fP e2 e1 e0 f1 f0<4294967296:=by
    have:fP e2 e1 e0 f1 f0<=4294967295:=Nat.min_le_left _ _;omega
   have Df:=λW=>Lib.hid (qss e2 e1 e0 f1 f0 W oJ hb1 jZ qkh dR mH);generalize fP e2 e1 e0 f1 f0=jI at*;have qeC:Hid (nv (λi=>U (j+i)) (n+1)/nv V n<=jI/\jI<=nv (λi=>U (j+i)) (n+1)/nv V n+1):=⟨UM,qkf⟩;have Ii:=Lib.hid uA;have iR:=Lib.hid LF;have pI:=iQ.out.size
   have k4:((n:Int)-2).toNat=n-2:=by omega
   have k5:(0:Int)<=(n:Int)-2:=by omega
   have k6:(n:Int)-2<(n:Int)+1:=by omega
   have k7:(n:Int)-1<(n:Int)+1:=by omega
   have k8:(n:Int)-2<(n:Int):=by omega
   have k9:(n:Int)<(n:Int)+1:=by omega
   have k10:(1:Int)<=(n:Int):=by omega
   have k11:(2:Int)<=(n:Int):=by omega
   have kw1:IntKind.i64.wrap ((n:Int)-1)=(n:Int)-1:=IntWalk.i64_in _ (by omega);have kw2:IntKind.i64.wrap ((n:Int)-2)=(n:Int)-2:=IntWalk.i64_in _ (by omega);clear uA LF I7 UE qkL qbR UM qkf oJ gX hb1 jZ dR mH d5 Qq;refine fM (Np w5.heap.size j n vb vo U V) 28 (by kernel_rfl) fO.out (λhHeld=>?_);(refine dF [0,1,2,3,4,5,6,7,8,9,10,11,12,13,14,15,16,17,18,19,20,21,22,23,24,25] ?_;(iterate 26 (refine dD (v:=?_) ?_ ?_;rotate_left 1;(intro wS hSw;obtain⟨S1,S2,S3,S4,S5⟩:=hSw;go_simp;try with_reducible rfl);(try simp only[Act.put,aD,aF,aG])));refine dG ?_);simp only[<-aA, <-af, <-kM, <-fo, <-fB];clear aA af kM fo fB pI q1 q2 q3 k4 k5 k6 k7 k8 k9 k10 k11 kw1 kw2;((refine aK 26 ?_;intro K hK);go_simp;(refine((Df _).out).mono ?_);rintro e_ wz ⟨rfl,Jh⟩;go_wp2_with (fail);(try clear ag);(have ag:=hHeld.ext Jh);(refine hK.out _ _ (λ_=>ag) ?_);clear hK K;(try simp only[Act.put,aD,aF,aG]));have XG:=Lib.hid ((Ext.refl wr).drew.trans Jh);have Uw:=tO.out.ext XG.out;have hq1:=Uw.1.cell (i:=j) (by omega);have hq2:=Uw.1.frozen j
   have q4:j<m:=by omega
   (refine dF [27] ?_;(iterate 1 (refine dD (v:=?_) ?_ ?_;rotate_left 1;(intro wS hSw;obtain⟨S1,S2,S3,S4,S5⟩:=hSw;go_simp;try with_reducible rfl);(try simp only[Act.put,aD,aF,aG])));refine dG ?_);((refine aK 28 ?_;intro K hK);go_simp;(refine hK.out _ _ (λh=>absurd rfl h) ?_);clear hK K;refine ek ?_);rename_i wz;have qiI:=Uw.set j jI qkg;have jg:∃W2,W2=wz.setCell ⟨w8.heap.size,j,none⟩ (.int .u32 (jI:Int)):=⟨_,rfl⟩;obtain⟨W2,jg⟩:=jg
   have qey:Hid (Ext w5 W2):=by rw[jg];exact(iQ.out.trans XG.out).set (p:=⟨w8.heap.size,j,none⟩) (Nat.le_of_lt qkM) _
   have XF:Hid (iP W2 w5.heap.size (la+1) U):=by
    rw[jg];have:=tQ.out.ext XG.out;exact⟨this.1.uI (p:=⟨w8.heap.size,j,none⟩) (by show w5.heap.size≠w8.heap.size;omega) _,this.2⟩
   have J7:Hid (iP W2 w8.heap.size m (cK Q j jI)):=by rw[jg];exact qiI
   rw[<-jg]
   have c1:W2.cell? ⟨w8.heap.size,j,none⟩=some (.int .u32 (jI:Int)):=by
    rw[J7.out.1.cell (by omega)];unfold cK;rw[if_pos rfl]
   have iI:w8.heap.size<W2.heap.size:=J7.out.1.lt;have xC:=Lib.hid (qsx w5.heap.size j n (la+1-j) (la+1) (some ⟨vb,vo,none⟩) vc jI U V W2 XF.out (by omega) (SY.out.ext qey.out) (λp hp=>by cases hp;show vb≠w5.heap.size;omega) qkg (by omega));clear Jh Uw hq1 hq2 qiI hHeld jg Df fO;go_wp2_with (fail);refine xC.out.mono ?_;rintro e_ W3 ⟨bb,U3,rfl,Po,LH⟩
   have qqv:Hid (0<nv V n):=by rw[Kw.out];exact Nat.mul_pos (Nat.pos_of_ne_zero KD.out) (Nat.pow_pos (by decide))
   have hUp:nv (λi=>U3 (j+i)) (n+1)<4294967296^(n+1):=pO _ _ λi hi=>Po.dg.2 _ (by omega);obtain⟨GA,wR⟩:=qr3 (b:=bb) (x:=4294967296^(n+1)) qqv.out qeC.out.1 qeC.out.2 (by rw[<-LH,Nat.mul_comm]) hUp;have xB:=Lib.hid Po;have qD:=Lib.hid LH;have tZ:=Lib.hid GA;have rz:=Lib.hid wR;have XH:Hid (Ext w5 W3):=qey.out.grown Po.gr (λk hk=>by cases hk;exact Nat.le_refl _)
   have J8:Hid (iP W3 w8.heap.size m (cK Q j jI)):=by
    refine⟨J7.out.1.of_heap (Po.gr.block _ J7.out.1.lt (λe=>?_)),J7.out.2⟩;simp only[Option.some.injEq]at e;omega
   clear Po LH GA wR hUp xC J7 c1;cases bb
   ·have A8:Hid (uL (x*2^s) (y*2^s) (la+1) m j U3 (cK Q j jI)):=by
     have h1:=tZ.out rfl
     have h2:uL (x*2^s) (y*2^s) (la+1) m (j+1) U (cK Q j jI):=nI.out.congr λi hi=>by unfold cK;rw[if_neg (by omega)]
     exact h2.next YZ.out (by omega) q4 (by unfold cK;rw[if_pos rfl]) (λi hi=>xB.out.same i (by omega)) rfl (by rw[<-Kw.out];exact h1.1) (by rw[<-Kw.out];exact h1.2) tQ.out.2
    have qpm:=Lib.hid xB.out.dg;clear tZ rz qD xB nI tO tQ XF;go_wp2
    go_roundw
    case rel=>exact⟨j,U3,cK Q j jI,by omega,by go_num,qpm,J8,A8,XH⟩
    case measure=>simp[intOf]
   ·have h1:=rz.out rfl;have hep:0<jI:=h1.2.1;have H1:=Lib.hid h1
    have c3:W3.cell? ⟨w8.heap.size,j,none⟩=some (.int .u32 (jI:Int)):=by
     rw[J8.out.1.cell (by omega)];unfold cK;rw[if_pos rfl]
    have c4:=J8.out.1.frozen j;have jQ:=J8.out.1.lt
    have kw:(jI:Int)-1=((jI-1:Nat):Int):=by omega
    have kw3:IntKind.u32.wrap ((jI:Int)-1)=(jI:Int)-1:=by rw[kw];exact wrap_u32 _ (by omega)
    clear h1 kw
    go_upto_region 20 with(fail)
    obtain⟨W4,lY⟩:∃W4,W4=W3.setCell ⟨w8.heap.size,j,none⟩ (.int .u32 ((jI:Int)-1)):=⟨_,rfl⟩
    have UM:jI-1<4294967296:=by omega
    have qez:Hid (Ext w5 W4):=by rw[lY];exact XH.out.set (p:=⟨w8.heap.size,j,none⟩) (Nat.le_of_lt qkM) _
    have qex:Hid (iP W4 w5.heap.size (la+1) U3):=by
     rw[lY];exact⟨xB.out.dg.1.uI (p:=⟨w8.heap.size,j,none⟩) (by show w5.heap.size≠w8.heap.size;omega) _,xB.out.dg.2⟩
    have RU:Hid (iP W4 w8.heap.size m (cK (cK Q j jI) j (jI-1))):=by
     rw[lY,show(jI:Int)-1=((jI-1:Nat):Int) by omega];exact J8.out.set j _ UM
    rw[<-lY];have HAB:=Lib.hid (qso w5.heap.size j n (la+1-j) (la+1) (some ⟨vb,vo,none⟩) vc U3 V W4 qex.out (by omega) (SY.out.ext qez.out) (λp hp=>by cases hp;show vb≠w5.heap.size;omega) (by omega));clear c3 c4 jQ kw3 lY J8 XH;go_wp2_with (fail);refine HAB.out.mono ?_;rintro e_ W5 ⟨kk,U5,rfl,iE,LJ⟩;have qpq:Hid (Ext w5 W5):=qez.out.grown iE.gr (λk hk=>by cases hk;exact Nat.le_refl _)
    have qpl:Hid (iP W5 w8.heap.size m (cK (cK Q j jI) j (jI-1))):=by
     refine⟨RU.out.1.of_heap (iE.gr.block _ RU.out.1.lt (λe=>?_)),RU.out.2⟩;simp only[Option.some.injEq]at e;omega
    have qpn:=Lib.hid iE.dg
    have A8:Hid (uL (x*2^s) (y*2^s) (la+1) m j U5 (cK (cK Q j jI) j (jI-1))):=by
     have h2:uL (x*2^s) (y*2^s) (la+1) m (j+1) U (cK (cK Q j jI) j (jI-1)):=nI.out.congr λi hi=>by unfold cK;rw[if_neg (by omega),if_neg (by omega)]
     have h3:=qD.out;simp only[if_true,Nat.one_mul]at h3;have h4:nv (λi=>U5 (j+i)) (n+1)<4294967296^(n+1):=pO _ _ λi hi=>iE.dg.2 _ (by omega)
     have h5:nv V n<=4294967296^(n+1):=by
      have h6:=pO V n Ip.out;rw[Nat.pow_succ];omega
     have h7:=qr1 (Y:=nv V n) h3 LJ hep h4 H1.out.2.2.2 H1.out.2.2.1 h5;exact h2.next YZ.out (by omega) q4 (by unfold cK;rw[if_pos rfl]) (λi hi=>by rw[iE.same i (by omega),xB.out.same i (by omega)]) rfl (by rw[<-Kw.out];exact h7.1) (by rw[<-Kw.out];exact h7.2) tQ.out.2
    clear HAB iE LJ H1 tZ rz qD xB nI tO tQ XF qex RU;go_wp2
    go_roundw
    case rel=>exact⟨j,U5,cK (cK Q j jI) j (jI-1),by omega,by go_num,qpn,qpl,A8,qpq⟩
    case measure=>simp[intOf]
theorem qhI{M:Nat->Prop}(v v':Value)(x y:Nat)(w:World)(hM:Mb M w)(h:fA M w v x)(h':fA M w v' y)(hy:y≠0)(hL:az x+1<=1099511627776):
 Calls Tryz.prog 162 #[v,v'] w (Hy M w x y):=by
 by_cases hlt:x<y
 ·exact qr7 v v' x y w hM h h' hlt
 ·by_cases h1:az y=1
  ·exact qr8 v v' x y w hM h h' (by omega) h1
  ·exact qr6 v v' x y w hM h h' (by omega) (by have:=Uh hy;omega) hL
theorem qhJ{M:Nat->Prop}(b:Bool)(a:Option Addr)(n p:Nat)(z:Int)(w:World)(h:dB M w (.bool b) (.slice a n p) z):
 Calls Tryz.prog 127 #[.agg #[.bool b,.slice a n p]] w λe w'=>e=.returned (.bool (decide (z=0)))/\Ext w w':=by
 have hE:Ext w (w.alloc (.cells #[.bool b,.slice a n p] 30)):=(Ext.refl w).alloc _;have HI:=Lib.hid (h.ext hE)
 have hz:(z.sign==0)=decide (z=0):=by
  rw[Bool.eq_iff_iff,beq_iff_eq,decide_eq_true_iff,Int.sign_eq_zero_iff_zero]
 have HZ:=Lib.hid hz;clear h hz
 go_enter Tryz.func127,Tryz.ntmps127
 go_wp2_with (fail);refine(Mw _ _ z _ HI.out).mono ?_;rintro e w1 ⟨rfl,af⟩;generalize z.sign=s at*;have HE:=Lib.hid (hE.trans af);clear hE af HI;go_wp2;go_ret;exact⟨by rw[HZ.out];rfl,HE.out⟩
theorem qyL(na nb:Bool)(x y:Nat):(bP na x).tdiv (bP nb y)=bP (na !=nb) (x/y):=by
 unfold bP;cases na<;>cases nb<;>simp[Int.neg_tdiv,Int.tdiv_neg,Int.ofNat_tdiv]
theorem qyM(na nb:Bool)(x y:Nat):(bP na x).tmod (bP nb y)=bP na (x%y):=by
 unfold bP;cases na<;>cases nb<;>simp[Int.neg_tmod,Int.tmod_neg]<;>exact Int.tmod_eq_emod_of_nonneg (Int.natCast_nonneg _)
def qgt(M:Nat->Prop)(w:World)(y z:Int)(e:Ending)(w':World):Prop:=∃(b:Bool)(a:Option Addr)(n p:Nat)(b2:Bool)(a2:Option Addr)(n2 p2:Nat),e=.returned (.tuple #[.agg #[.bool b,.slice a n p],.agg #[.bool b2,.slice a2 n2 p2],.int .i64 0])/\dJ M w' (.bool b) (.slice a n p) (y.tdiv z)/\dJ M w' (.bool b2) (.slice a2 n2 p2) (y.tmod z)/\Ext w w'
def FJ(g h:Nat)(b b':Bool)(w:World):Prop:=w.cell? ⟨g,0,none⟩=some (.bool b)/\w.cell? ⟨h,0,none⟩=some (.bool b')
theorem FJ.ext{g h:Nat}{b b':Bool}{w w':World}(k:FJ g h b b' w)(he:Ext w w'):FJ g h b b' w':=by
 have h1:=World.block_lt_of_cell? _ _ k.1;have h2:=World.block_lt_of_cell? _ _ k.2;exact⟨by rw[he.cell h1];exact k.1,by rw[he.cell h2];exact k.2⟩
theorem K6(w:World){g k b o:Nat}(u:Value)(h:b≠g):(w.setCell ⟨g,k,none⟩ u).cell? ⟨b,o,none⟩=w.cell? ⟨b,o,none⟩:=
 World.cell?_of_block (Below.heap_setCell w ⟨g,k,none⟩ u b h)
theorem qsW{M':Nat->Prop}{w W:World}{g h:Nat}{t t':TypeId}{f f':Nat->Value}(A B C D:Value)(hB:ak W g t 2 f)(hC:ak W h t' 2 f')(hne:g≠h)(hg:M' g)(hh:M' h)(hw:w.heap.size<=g)(hw':w.heap.size<=h)(he:Ext w W):
 ∃WA WB,WA=(W.setCell ⟨g,0,none⟩ A).setCell ⟨g,1,none⟩ B/\WB=(WA.setCell ⟨h,0,none⟩ C).setCell ⟨h,1,none⟩ D/\
 (W.cell? ⟨g,0,none⟩=some (f 0)/\W.cell? ⟨g,1,none⟩=some (f 1)/\W.frozen? ⟨g,0,none⟩=false/\W.frozen? ⟨g,1,none⟩=false)/\
 (WA.cell? ⟨h,0,none⟩=some (f' 0)/\WA.cell? ⟨h,1,none⟩=some (f' 1)/\WA.frozen? ⟨h,0,none⟩=false/\WA.frozen? ⟨h,1,none⟩=false)/\
 (WB.cell? ⟨g,0,none⟩=some A/\WB.cell? ⟨g,1,none⟩=some B/\WB.cell? ⟨h,0,none⟩=some C/\WB.cell? ⟨h,1,none⟩=some D)/\
 Kp M' W WB/\Ext w WB/\(∀b o,b≠g->WA.cell? ⟨b,o,none⟩=W.cell? ⟨b,o,none⟩)/\(∀b o,b≠g->b≠h->WB.cell? ⟨b,o,none⟩=W.cell? ⟨b,o,none⟩)/\Ext w WA:=by
 have cZ:=(hB.set 0 A).set 1 B;have qN:=(hC.uI (p:=⟨g,0,none⟩) (λe=>hne e.symm) A).uI (p:=⟨g,1,none⟩) (λe=>hne e.symm) B;have hC3:=(qN.set 0 C).set 1 D;have jK:=(cZ.uI (p:=⟨h,0,none⟩) hne C).uI (p:=⟨h,1,none⟩) hne D;refine⟨_,_,rfl,rfl,⟨hB.cell (by omega),hB.cell (by omega),hB.frozen 0,hB.frozen 1⟩,⟨qN.cell (by omega),qN.cell (by omega),qN.frozen 0,qN.frozen 1⟩,⟨?_,?_,?_,?_⟩,?_,?_,?_,?_,?_⟩
 ·rw[jK.cell (i:=0) (by omega)];simp[iK]
 ·rw[jK.cell (i:=1) (by omega)];simp[iK]
 ·rw[hC3.cell (i:=0) (by omega)];simp[iK]
 ·rw[hC3.cell (i:=1) (by omega)];simp[iK]
 ·exact(((Kp.set _ _ hg _).trans (Kp.set _ _ hg _)).trans (Kp.set _ _ hh _)).trans (Kp.set _ _ hh _)
 ·exact(((he.set (p:=⟨g,0,none⟩) hw _).set (p:=⟨g,1,none⟩) hw _).set (p:=⟨h,0,none⟩) hw' _).set (p:=⟨h,1,none⟩) hw' _
 ·intro b o hb;rw[K6 _ _ hb,K6 _ _ hb]
 ·intro b o hb hb';rw[K6 _ _ hb',K6 _ _ hb',K6 _ _ hb,K6 _ _ hb]
 ·exact(he.set (p:=⟨g,0,none⟩) hw _).set (p:=⟨g,1,none⟩) hw _
theorem qhK{M:Nat->Prop}(b:Bool)(a:Option Addr)(n p:Nat)(y:Int)(b':Bool)(a':Option Addr)(n' p':Nat)(z:Int)(w:World)(hM:Mb M w)(h:dB M w (.bool b) (.slice a n p) y)(h':dB M w (.bool b') (.slice a' n' p') z)(hz:z≠0)(hL:az y.natAbs+1<=1099511627776):
 Calls Tryz.prog 126 #[.agg #[.bool b,.slice a n p],.agg #[.bool b',.slice a' n' p']] w (qgt M w y z):=by
 have bO:=((((ak.bf w #[.bool b,.slice a n p] 30 2 rfl).alloc (.cells #[.bool b',.slice a' n' p'] 30)).alloc (.cells #[.bool false,.slice none 0 0] 30)).alloc (.cells #[.bool false,.slice none 0 0] 30));have bM:=(((ak.bf (w.alloc (.cells #[.bool b,.slice a n p] 30)) #[.bool b',.slice a' n' p'] 30 2 rfl).alloc (.cells #[.bool false,.slice none 0 0] 30)).alloc (.cells #[.bool false,.slice none 0 0] 30));have cZ:=((ak.bf ((w.alloc (.cells #[.bool b,.slice a n p] 30)).alloc (.cells #[.bool b',.slice a' n' p'] 30)) #[.bool false,.slice none 0 0] 30 2 rfl).alloc (.cells #[.bool false,.slice none 0 0] 30));have jK:=ak.bf (((w.alloc (.cells #[.bool b,.slice a n p] 30)).alloc (.cells #[.bool b',.slice a' n' p'] 30)).alloc (.cells #[.bool false,.slice none 0 0] 30)) #[.bool false,.slice none 0 0] 30 2 rfl;have aQ:Ext w ((((w.alloc (.cells #[.bool b,.slice a n p] 30)).alloc (.cells #[.bool b',.slice a' n' p'] 30)).alloc (.cells #[.bool false,.slice none 0 0] 30)).alloc (.cells #[.bool false,.slice none 0 0] 30)):=((((Ext.refl w).alloc _).alloc _).alloc _).alloc _;simp only[World.size_alloc]at bM cZ jK;have dw:Mb (Mx M w.heap.size (w.heap.size+4)) ((((w.alloc (.cells #[.bool b,.slice a n p] 30)).alloc (.cells #[.bool b',.slice a' n' p'] 30)).alloc (.cells #[.bool false,.slice none 0 0] 30)).alloc (.cells #[.bool false,.slice none 0 0] 30)):=Mx.mb hM (by simp;omega) (by simp);have h0:=(h.more (M':=Mx M w.heap.size (w.heap.size+4)) (Mx.more (Nat.le_refl _))).ext aQ
 have zh:=(h'.more (M':=Mx M w.heap.size (w.heap.size+4)) (Mx.more (Nat.le_refl _))).ext aQ;generalize xX:(((w.alloc (.cells #[.bool b,.slice a n p] 30)).alloc (.cells #[.bool b',.slice a' n' p'] 30)).alloc (.cells #[.bool false,.slice none 0 0] 30)).alloc (.cells #[.bool false,.slice none 0 0] 30)=W0 at*;have Fy:=Lib.hid xX;have gQ:=Lib.hid bO;have cB:=Lib.hid bM;have fH:=Lib.hid cZ;have og:=Lib.hid jK;have gB:=Lib.hid aQ;have AZ:=Lib.hid dw;have R6:=Lib.hid h0;have Fg:=Lib.hid zh;clear h h' hM xX bO bM cZ jK aQ dw h0 zh
 go_enter Tryz.func126,Tryz.ntmps126
 go_upto_region 1 with(fail)
 rw[Fy.out];have TK:=gQ.out.cell (i:=0) (by omega);have ZO:=gQ.out.cell (i:=1) (by omega);have TL:=cB.out.cell (i:=0) (by omega);have ZP:=cB.out.cell (i:=1) (by omega);simp only[arr]at TK ZO TL ZP;have g0:=gQ.out.lt;have g1:=cB.out.lt;have aS:=qhJ _ _ _ _ z W0 Fg.out;rw[decide_eq_false hz]at aS;have aO:=Lib.hid aS;clear aS;go_wp2_with (fail);refine aO.out.mono ?_;rintro e w1 ⟨rfl,af⟩;obtain⟨nb,x1,hb1,fG,iy⟩:=R6.out.ext af;obtain⟨nb',x2,gX,oK,qx⟩:=Fg.out.ext af;simp only[Value.bool.injEq]at hb1 gX;subst hb1 gX;have qlC:x2≠0:=λe=>hz (by rw[qx,e];unfold bP;split<;>rfl);have nH:=Lib.hid (qhI _ _ x1 x2 w1 (AZ.out.ext af) fG oK qlC (by rw[iy,tu]at hL;exact hL));have qE:=Lib.hid iy;have qd:=Lib.hid qx;have aL:=Lib.hid af;rw[<-af.cell g0]at TK ZO;rw[<-af.cell g1]at TL ZP;have g0:=Nat.lt_of_lt_of_le g0 af.size;have g1:=Nat.lt_of_lt_of_le g1 af.size;clear aO fG oK iy qx af qlC hz hL;go_wp2_with (fail);refine nH.out.mono ?_;rintro e w2 ⟨q,r,rfl,hq,hr,aA⟩;obtain⟨qa,qn,qc,rfl⟩:=hq.eH.form;obtain⟨ra,rn,rc,rfl⟩:=hr.eH.form;have aU:=Lib.hid ((aL.out.trans aA).drew);have HQ:=Lib.hid (hq.eH.ext (Ext.refl w2).drew);have HR:=Lib.hid (hr.eH.ext (Ext.refl w2).drew);have fO:Hid (FJ w.heap.size (w.heap.size+1) b b' w2.drew):=FJ.ext ⟨TK,TL⟩ (aA.drew);have jb:=Lib.hid (AZ.out.ext aU.out)
 clear nH hq hr aA TK ZO TL ZP
 go_upto_region 4 with(fail)
 refine fM (FJ w.heap.size (w.heap.size+1) b b') 13 (by kernel_rfl) fO.out (λhHeld=>?_);(refine dF [0,1,2,3,4,5,7,8,9] ?_;(iterate 9 (refine dD (v:=?_) ?_ ?_;rotate_left 1;(intro wS hSw;obtain⟨S1,S2⟩:=hSw;go_simp;try with_reducible rfl);(try simp only[Act.put,aD,aF,aG])));refine dG ?_);((refine aK 6 ?_;intro K hK);go_simp;(refine(Mv (b !=b') _ (x1/x2) _ jb.out HQ.out).mono ?_);rintro e_ wz ⟨k0,k1,rfl,hk,aT⟩;go_wp2_with (fail);(try clear ag);(have ag:=hHeld.ext aT);(refine hK.out _ _ (λ_=>ag) ?_);clear hK K;(try simp only[Act.put,aD,aF,aG]));obtain⟨kb,ka,kn,kp,rfl,rfl⟩:=hk.form;((refine aK 10 ?_;intro K hK);go_simp;(refine(Mv b _ (x1%x2) _ (jb.out.ext aT) (HR.out.ext aT)).mono ?_);rintro e_ wz ⟨m0,m1,rfl,hm,aW⟩;go_wp2_with (fail);(try clear ag);(have ag:=hHeld.ext (aT.trans aW));(refine hK.out _ _ (λ_=>ag) ?_);clear hK K;(try simp only[Act.put,aD,aF,aG]));rename_i wz;obtain⟨mb,ma,mn,mp,rfl,rfl⟩:=hm.form;have fV:=Lib.hid (aU.out.trans (aT.trans aW));have HK:=Lib.hid (hk.ext aW);have Yd:=Lib.hid hm;have SL:=Lib.hid ag;obtain⟨WA,WB,hWA,hWB,⟨q0,q1,q2,q3⟩,⟨p0,p1,p2,p3⟩,⟨r0,r1,r2,r3⟩,aZ,dM,hcA,hcB,_⟩:=qsW (M':=Mx M w.heap.size (w.heap.size+4)) (w:=w) (.bool kb) (.slice ka kn kp) (.bool mb) (.slice ma mn mp) (fH.out.ext fV.out) (og.out.ext fV.out) (by omega) (Mx.at (by omega)) (Mx.at (by omega)) (by omega) (by omega) (gB.out.trans fV.out)
 have hSA:FJ w.heap.size (w.heap.size+1) b b' WA:=⟨by rw[hcA _ _ (by omega)];exact SL.out.1,by rw[hcA _ _ (by omega)];exact SL.out.2⟩;have hSB:FJ w.heap.size (w.heap.size+1) b b' WB:=⟨by rw[hcB _ _ (by omega) (by omega)];exact SL.out.1,by rw[hcB _ _ (by omega) (by omega)];exact SL.out.2⟩
 have HF:Hid (qgt M w y z (.returned (.tuple #[.agg #[.bool kb,.slice ka kn kp],.agg #[.bool mb,.slice ma mn mp],.int .i64 0])) WB):=
  ⟨_,_,_,_,_,_,_,_,rfl,by rw[qE.out,qd.out,qyL];exact(HK.out.kp aZ).more Mx.less,by rw[qE.out,qd.out,qyM];exact(Yd.out.kp aZ).more Mx.less,dM⟩
 have HWA:=Lib.hid hWA;have HWB:=Lib.hid hWB;have HPA:Hid ((WA.cell? ⟨w.heap.size+1+1+1,0,none⟩=some (.bool false)/\WA.cell? ⟨w.heap.size+1+1+1,1,none⟩=some (.slice none 0 0))/\WA.frozen? ⟨w.heap.size+1+1+1,0,none⟩=false/\WA.frozen? ⟨w.heap.size+1+1+1,1,none⟩=false):=⟨⟨p0,p1⟩,p2,p3⟩;simp only[arr]at q0 q1;clear hk hm aT aW hHeld aZ dM hcA hcB p0 p1 p2 p3 hWA hWB ag;(refine aK 11 ?_;intro K hK);go_simp;rw[<-HWA.out];refine hK.out _ _ (λ_=>hSA) ?_;clear hK K q0 q1 q2 q3 HWA;(try simp only[Act.put,aD,aF,aG]);obtain⟨⟨p0,p1⟩,p2,p3⟩:=HPA.out;(refine aK 12 ?_;intro K hK);go_simp;rw[<-HWB.out];refine hK.out _ _ (λ_=>hSB) ?_;clear hK K p0 p1 p2 p3 HWB;(try simp only[Act.put,aD,aF,aG]);((refine aK 13 ?_;intro K hK);go_simp;(refine hK.out _ _ (λh=>absurd rfl h) ?_);clear hK K;refine ek ?_);clear hSA hSB;go_wp2;exact bodyPost_ret (v:=.tuple #[.agg #[.bool kb,.slice ka kn kp],.agg #[.bool mb,.slice ma mn mp],.int .i64 0]) (by simp[results,Tryz.results126,go_sem,r0,r1,r2,r3]) rfl HF.out
def VE(w:World)(v:Value):Nat:=match v with
 | .slice (some ⟨b,off,none⟩) n _=>nv (λi=>match w.cell? ⟨b,off+i,none⟩with|some (.int .u32 k)=>k.toNat|_=>0) n
 |_=>0
theorem qmv{M:Nat->Prop}{w:World}{v:Value}{x:Nat}(h:fA M w v x):VE w v=x:=by
 obtain⟨n,d,⟨_,_,h3⟩,rfl⟩:=h;rcases h3 with⟨rfl,a,cap,rfl,_⟩|⟨b,off,cap,rfl,_,_,_,hc⟩
 ·unfold VE;split
  ·rename_i hh;simp only[Value.slice.injEq]at hh;obtain⟨_,rfl,_⟩:=hh;rfl
  ·rfl
 ·unfold VE;refine nV _ _ _ λi hi=>?_;rw[hc i hi];simp
def Xf(M:Nat->Prop)(w:World)(y z:Int)(e:Ending)(w':World):Prop:=∃(b:Bool)(a:Option Addr)(n p:Nat),e=.returned (.agg #[.bool b,.slice a n p])/\dJ M w' (.bool b) (.slice a n p) (Nat.gcd y.natAbs z.natAbs:Nat)/\Ext w w'
def KV(g h:Nat)(v v':Value)(w:World):Prop:=w.cell? ⟨g,1,none⟩=some v/\w.cell? ⟨h,1,none⟩=some v'
theorem KV.ext{g h:Nat}{v v':Value}{w w':World}(k:KV g h v v' w)(he:Ext w w'):KV g h v v' w':=by
 have h1:=World.block_lt_of_cell? _ _ k.1;have h2:=World.block_lt_of_cell? _ _ k.2;exact⟨by rw[he.cell h1];exact k.1,by rw[he.cell h2];exact k.2⟩
def Ns(M:Nat->Prop)(w:World)(G:Nat)(x y:Nat)(u v:Value):Prop:=gT M w u x/\gT M w v y/\Nat.gcd x y=G/\az x+1<=1099511627776/\az y+1<=1099511627776
theorem Ns.next{M:Nat->Prop}{w w':World}{G x y:Nat}{u v r:Value}(h:Ns M w G x y u v)(he:Ext w w')(hr:gT M w' r (x%y)):Ns M w' G y (x%y) v r:=by
 obtain⟨h1,h2,h3,h4,h5⟩:=h;refine⟨h2.ext he,hr,?_,h5,?_⟩
 ·rw[<-h3,Nat.gcd_comm x y,Nat.gcd_rec y x,Nat.gcd_comm]
 ·have:=ji (Nat.mod_le x y);omega
theorem gT.slice{M:Nat->Prop}{w:World}{v:Value}{x:Nat}(h:gT M w v x):∃a p,v=.slice a (az x) p:=by
 obtain⟨d,h1,_⟩:=h.len;obtain⟨a,p,rfl⟩:=kE h1;exact⟨a,p,rfl⟩
theorem qsu{M:Nat->Prop}(b:Bool)(a:Option Addr)(n p:Nat)(y:Int)(b':Bool)(a':Option Addr)(n' p':Nat)(z:Int)(w:World)(hM:Mb M w)(h:dB M w (.bool b) (.slice a n p) y)(h':dB M w (.bool b') (.slice a' n' p') z)(hL:az y.natAbs+1<=1099511627776)(D8:az z.natAbs+1<=1099511627776):
 Calls Tryz.prog 137 #[.agg #[.bool b,.slice a n p],.agg #[.bool b',.slice a' n' p']] w (Xf M w y z):=by
 have bO:=(((ak.bf w #[.bool b,.slice a n p] 30 2 rfl).alloc (.cells #[.bool b',.slice a' n' p'] 30)).alloc (.cells #[.bool false,.slice none 0 0] 30));have bM:=((ak.bf (w.alloc (.cells #[.bool b,.slice a n p] 30)) #[.bool b',.slice a' n' p'] 30 2 rfl).alloc (.cells #[.bool false,.slice none 0 0] 30));have cZ:=ak.bf ((w.alloc (.cells #[.bool b,.slice a n p] 30)).alloc (.cells #[.bool b',.slice a' n' p'] 30)) #[.bool false,.slice none 0 0] 30 2 rfl;have aQ:Ext w (((w.alloc (.cells #[.bool b,.slice a n p] 30)).alloc (.cells #[.bool b',.slice a' n' p'] 30)).alloc (.cells #[.bool false,.slice none 0 0] 30)):=(((Ext.refl w).alloc _).alloc _).alloc _;simp only[World.size_alloc]at bM cZ;have dw:Mb (Mx M w.heap.size (w.heap.size+3)) (((w.alloc (.cells #[.bool b,.slice a n p] 30)).alloc (.cells #[.bool b',.slice a' n' p'] 30)).alloc (.cells #[.bool false,.slice none 0 0] 30)):=Mx.mb hM (by simp;omega) (by simp);have h0:=(h.more (M':=Mx M w.heap.size (w.heap.size+3)) (Mx.more (Nat.le_refl _))).ext aQ;have zh:=(h'.more (M':=Mx M w.heap.size (w.heap.size+3)) (Mx.more (Nat.le_refl _))).ext aQ;generalize xX:((w.alloc (.cells #[.bool b,.slice a n p] 30)).alloc (.cells #[.bool b',.slice a' n' p'] 30)).alloc (.cells #[.bool false,.slice none 0 0] 30)=W0 at*;have Fy:=Lib.hid xX;have fH:=Lib.hid (cZ.ext (Ext.refl _).drew);have gB:=Lib.hid (aQ.drew);have AZ:=Lib.hid (dw.ext (Ext.refl _).drew);obtain⟨nb,x1,hb1,fG,rfl⟩:=h0.ext (Ext.refl _).drew
 obtain⟨nb',x2,gX,oK,rfl⟩:=zh.ext (Ext.refl _).drew;simp only[Value.bool.injEq]at hb1 gX;subst hb1 gX;rw[tu]at hL D8;have ku:=Lib.hid fG;have ow:=Lib.hid oK;have fO:Hid (KV w.heap.size (w.heap.size+1) (.slice a n p) (.slice a' n' p') W0.drew):=KV.ext ⟨bO.cell (i:=1) (by omega),bM.cell (i:=1) (by omega)⟩ (Ext.refl _).drew;have HG:Hid (∃G,G=Nat.gcd x1 x2):=⟨_,rfl⟩;obtain⟨G,hG⟩:=HG.out;have nJ:=Lib.hid hG;clear h h' hM xX bO bM cZ aQ dw h0 zh fG oK HG hG
 go_enter Tryz.func137,Tryz.ntmps137
 go_upto_region 1 with(fail)
 rw[Fy.out];refine fM (KV w.heap.size (w.heap.size+1) (.slice a n p) (.slice a' n' p')) 7 (by kernel_rfl) fO.out (λhHeld=>?_);(refine dF [0,1,3,4] ?_;(iterate 4 (refine dD (v:=?_) ?_ ?_;rotate_left 1;(intro wS hSw;obtain⟨S1,S2⟩:=hSw;go_simp;try with_reducible rfl);(try simp only[Act.put,aD,aF,aG])));refine dG ?_);((refine aK 2 ?_;intro K hK);go_simp;(refine(EM _ x1 _ AZ.out ku.out).mono ?_);rintro e_ wz ⟨u,rfl,hu,af⟩;go_wp2_with (fail);(try clear ag);(have ag:=hHeld.ext af);(refine hK.out _ _ (λ_=>ag) ?_);clear hK K;(try simp only[Act.put,aD,aF,aG]));((refine aK 5 ?_;intro K hK);go_simp;(refine(EM _ x2 _ (AZ.out.ext af) (ow.out.ext af)).mono ?_);rintro e_ wz ⟨v,rfl,hv,aA⟩;go_wp2_with (fail);(try clear ag);(have ag:=hHeld.ext (af.trans aA));(refine hK.out _ _ (λ_=>ag) ?_);clear hK K;(try simp only[Act.put,aD,aF,aG]));rename_i wz;have HI:Hid (Ns (Mx M w.heap.size (w.heap.size+3)) wz G x1 x2 u v):=⟨hu.ext aA,hv,nJ.out.symm,hL,D8⟩;have NF:=Lib.hid (af.trans aA);clear hu hv af aA;(refine dF [6] ?_;(iterate 1 (refine dD (v:=?_) ?_ ?_;rotate_left 1;(intro wS hSw;obtain⟨S1,S2⟩:=hSw;go_simp;try with_reducible rfl);(try simp only[Act.put,aD,aF,aG])));refine dG ?_);((refine aK 7 ?_;intro K hK);go_simp;(refine hK.out _ _ (λh=>absurd rfl h) ?_);clear hK K;refine ek ?_)
 clear ag hHeld ku ow fO hL D8;go_wp2
 go_loopw [5,6] (λcu cv wr=>∃(x y:Nat),Hid (Ns (Mx M w.heap.size (w.heap.size+3)) wr G x y cu cv)/\Hid (Ext W0.drew wr)) (λ_ cv wr=>VE wr cv)
 case atStart=>exact⟨x1,x2,HI,NF⟩
 case round=>
  clear HI NF;obtain⟨x,y,HI,HE⟩:=hrel;obtain⟨ua,up,rfl⟩:=HI.out.1.slice;obtain⟨va,vp,rfl⟩:=HI.out.2.1.slice;obtain⟨lx,Gt⟩:∃lx,lx=az x:=⟨_,rfl⟩;obtain⟨ly,L9⟩:∃ly,ly=az y:=⟨_,rfl⟩;have NP:=Lib.hid Gt;have Fj:=Lib.hid L9;rw[<-Gt, <-L9]at HI;rw[<-Gt, <-L9];clear Gt L9
  by_cases qbo:2<lx\/2<ly
  ·have qj5:(2:Int)<(lx:Int)\/(¬(2:Int)<(lx:Int)/\(2:Int)<(ly:Int)):=by omega
   by_cases h0:ly=0
   ·have hl0:((ly:Int)==0)=true:=by simp[h0]
    have rU:y=0:=qhz.1 (by rw[<-Fj.out];exact h0)
    have ru:Hid (x=G):=by
     have:=HI.out.2.2.1;rw[rU,Nat.gcd_zero_right]at this;exact this
    have aO:=Lib.hid (Mv false _ x wr (AZ.out.ext HE.out) HI.out.1.eH);clear h0 rU qbo;rcases qj5 with h1|⟨h1,h2⟩
    all_goals
     go_wp2_with (fail);refine aO.out.mono ?_;rintro e wa ⟨k0,k1,rfl,hk,sN⟩;obtain⟨kb,ka,kn,kp,rfl,rfl⟩:=hk.form;obtain⟨⟨q0,q1,f0,f1⟩,⟨r0,r1⟩,aZ,dM⟩:=nL (M':=Mx M w.heap.size (w.heap.size+3)) (w:=w) (.bool kb) (.slice ka kn kp) (fH.out.ext (HE.out.trans sN)) (Mx.at (by omega)) (by omega) ((gB.out.trans HE.out).trans sN)
     have HF:Hid (Xf M w (bP b x1) (bP b' x2) (.returned (.agg #[.bool kb,.slice ka kn kp])) ((wa.setCell ⟨w.heap.size+1+1,0,none⟩ (.bool kb)).setCell ⟨w.heap.size+1+1,1,none⟩ (.slice ka kn kp))):=
      ⟨_,_,_,_,rfl,by rw[tu,tu, <-nJ.out, <-ru.out];exact(hk.kp aZ).more Mx.less,dM⟩
     simp only[arr]at q0 q1;clear hk aZ dM sN;go_wp2;exact bodyPost_ret (v:=.agg #[.bool kb,.slice ka kn kp]) (by simp[results,Tryz.results137,go_sem,r0,r1]) rfl HF.out
   ·have hl0:((ly:Int)==0)=false:=by simp;omega
    have rU:y≠0:=λe=>h0 (by rw[Fj.out,e];rfl);have hlt:x%y<y:=Nat.mod_lt _ (by omega);have aO:=Lib.hid (qhI _ _ x y wr (AZ.out.ext HE.out) HI.out.1.eH HI.out.2.1.eH rU HI.out.2.2.2.1);have HN:=Lib.hid (qmv HI.out.2.1.eH);clear qbo h0 rU;rcases qj5 with h1|⟨h1,h2⟩
    all_goals
     go_wp2_with (fail);refine aO.out.mono ?_;rintro e wa ⟨q,r,rfl,hq,hr,sN⟩;have yL:=Lib.hid (HI.out.next sN hr);have xy:=Lib.hid (qmv hr.eH);have aU:=Lib.hid (HE.out.trans sN);clear hq hr sN;go_wp2
     go_roundw
     case rel=>exact⟨y,x%y,yL,aU⟩
     case measure=>rw[HN.out,xy.out];exact hlt
  ·have h1:¬(2:Int)<(lx:Int):=by omega
   have h2:¬(2:Int)<(ly:Int):=by omega
   have GN:x<18446744073709551616:=(o9 x 2).1 (by rw[<-NP.out];omega);have sU:y<18446744073709551616:=(o9 y 2).1 (by rw[<-Fj.out];omega);have aO:=Lib.hid (qmD _ x wr HI.out.1.eH GN);clear qbo;go_wp2_with (fail);refine aO.out.mono ?_;rintro e wa ⟨rfl,sN⟩;have nH:=Lib.hid (qmD _ y wa (HI.out.2.1.eH.ext sN) sU);have HEa:=Lib.hid (HE.out.trans sN);clear aO sN;go_wp2_with (fail);refine nH.out.mono ?_;rintro e wb ⟨rfl,Em⟩;have HEb:=Lib.hid (HEa.out.trans Em);have sD:=Lib.hid HI.out.2.2.1;clear nH Em h1 h2;go_wp2
   go_loopw [9,11] (λcm cn wr=>∃(m k:Nat),cm=.int .u64 m/\cn=.int .u64 k/\m<18446744073709551616/\k<18446744073709551616/\Hid (Nat.gcd m k=G)/\Hid (Ext W0.drew wr)) (λ_ cn _=>(intOf cn).toNat)
   case atStart=>exact⟨x,y,rfl,rfl,GN,sU,sD,HEb⟩
   case round=>
    clear sD HEb HEa;obtain⟨m,k,rfl,rfl,hm,hk,sD,Fb⟩:=hrel
    by_cases h0:k=0
    ·have jZ:((k:Int)==0)=true:=by simp[h0]
     have jh:Hid (m=G):=by
      have:=sD.out;rw[h0,Nat.gcd_zero_right]at this;exact this
     have yG:=Lib.hid (VG (M:=Mx M w.heap.size (w.heap.size+3)) m wr (AZ.out.ext Fb.out) hm);clear h0 sD HI;go_wp2_with (fail);refine yG.out.mono ?_;rintro e wc ⟨gu,rfl,hgu,hec⟩;have C9:=Lib.hid (Mv false _ m wc ((AZ.out.ext Fb.out).ext hec) hgu.eH);have H8:=Lib.hid (Fb.out.trans hec);clear yG hgu hec;go_wp2_with (fail);refine C9.out.mono ?_;rintro e wd ⟨k0,k1,rfl,iq,jA⟩;obtain⟨kb,ka,kn,kp,rfl,rfl⟩:=iq.form;obtain⟨⟨q0,q1,f0,f1⟩,⟨r0,r1⟩,aZ,dM⟩:=nL (M':=Mx M w.heap.size (w.heap.size+3)) (w:=w) (.bool kb) (.slice ka kn kp) (fH.out.ext (H8.out.trans jA)) (Mx.at (by omega)) (by omega) ((gB.out.trans H8.out).trans jA)
     have HF:Hid (Xf M w (bP b x1) (bP b' x2) (.returned (.agg #[.bool kb,.slice ka kn kp])) ((wd.setCell ⟨w.heap.size+1+1,0,none⟩ (.bool kb)).setCell ⟨w.heap.size+1+1,1,none⟩ (.slice ka kn kp))):=
      ⟨_,_,_,_,rfl,by rw[tu,tu, <-nJ.out, <-jh.out];exact(iq.kp aZ).more Mx.less,dM⟩
     simp only[arr]at q0 q1;clear iq aZ dM jA C9;go_wp2;exact bodyPost_ret (v:=.agg #[.bool kb,.slice ka kn kp]) (by simp[results,Tryz.results137,go_sem,r0,r1]) rfl HF.out
    ·have jZ:((k:Int)==0)=false:=by simp;omega
     have yl:IntKind.u64.signed=false:=rfl;obtain⟨r,hr⟩:∃r,r=m%k:=⟨_,rfl⟩
     have Qh:r<k:=by rw[hr];exact Nat.mod_lt _ (by omega)
     have kz:¬(k:Int)=0:=by omega
     have e1:(m:Int).tmod (k:Int)=r:=by rw[Int.tmod_eq_emod_of_nonneg (by omega),hr];rfl
     have e2:(m:Int)%(k:Int)=r:=by rw[hr];rfl
     have e3:IntKind.u64.wrap (r:Int)=r:=wrap_u64 r (by omega)
     have R4:Hid (Nat.gcd k r=G):=by
      have:=sD.out;rw[Nat.gcd_comm,Nat.gcd_rec, <-hr,Nat.gcd_comm]at this;exact this
     clear hr sD HI
     go_upto_region 10 with(fail)
     refine fM DL 5 (by kernel_rfl) trivial (λhHeld=>?_);(refine dF [0,1,2,3,4] ?_;(iterate 5 (refine dD (v:=?_) ?_ ?_;rotate_left 1;(intro wS hSw;obtain Pp:=hSw;go_simp;try with_reducible rfl);(try simp only[Act.put,aD,aF,aG])));refine dG ?_);((refine aK 5 ?_;intro K hK);go_simp;(refine hK.out _ _ (λh=>absurd rfl h) ?_);clear hK K;refine ek ?_);go_wp2
     go_roundw
     case rel=>exact⟨k,r,rfl,rfl,hk,by omega,R4,Fb.out.drew⟩
     case measure=>simp[intOf];omega
abbrev zI:Array Value:= #[.bool false,.slice none 0 0]
structure I4 where
 b:Bool
 a:Option Addr
 n:Nat
 p:Nat
def C2(g:Nat)(x:I4)(w:World):Prop:=w.cell? ⟨g,0,none⟩=some (.bool x.b)/\w.cell? ⟨g,1,none⟩=some (.slice x.a x.n x.p)
theorem C2.ext{g:Nat}{x:I4}{w w':World}(k:C2 g x w)(he:Ext w w'):C2 g x w':=by
 have h1:=World.block_lt_of_cell? _ _ k.1;exact⟨by rw[he.cell h1];exact k.1,by rw[he.cell h1];exact k.2⟩
end Go.Proofs.YtmcfpnmoklnhoaaGreat
