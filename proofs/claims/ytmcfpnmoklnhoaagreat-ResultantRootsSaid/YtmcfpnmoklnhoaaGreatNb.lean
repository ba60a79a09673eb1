/- division.divide: plain facts of one round. division.divide: the walk. division.divide by two digits and more. division: divide, isZero, Quo. division.Gcd. The cells of integers. -/
import Derived.Test.YtmcfpnmoklnhoaaGreatNa
import Derived.Scope
set_option linter.unusedVariables false
set_option maxRecDepth 100000
set_option maxHeartbeats 400000000
set_option linter.unusedSimpArgs false

namespace Go.Proofs.YtmcfpnmoklnhoaaGreat
open Go.RowKit

theorem qpo {U:Nat->Nat} {T i k:Nat} (hU:nv U T<4294967296 ^ k) (hi:k<=i) (hT:i<T):U i=0:=by
 refine Classical.byContradiction fun hc=>?_;have h1:=ql7 U i hc
 have h2:nv U (i+1)<=nv U T:=by
  obtain ⟨r,rfl⟩ : ∃ r,T=i+1+r:=⟨T - (i+1),by omega⟩;have:=qaY U (i+1) r;omega
 have h3:4294967296 ^ k<=4294967296 ^ i:=Nat.pow_le_pow_right (by decide) hi;omega
theorem qqn {U:Nat->Nat} {T j m:Nat} (hT:j+m<=T) (hU:nv U T<4294967296 ^ (j+m)):nv U T=nv U j+4294967296 ^ j*nv (fun i=>U (j+i)) m:=by
 obtain ⟨r,rfl⟩ : ∃ r,T=j+m+r:=⟨T - (j+m),by omega⟩;rw [qaY U (j+m) r,qaI (fun i=>U (j+m+i)) (fun _=>0) r (fun i hi=>qpo hU (by omega) (by omega)),qdb,Nat.mul_zero,Nat.add_zero,qaY]
theorem qls (N a b c x:Nat):N+c*x+b*(x*4294967296)+a*(x*4294967296*4294967296)=((a*4294967296+b)*4294967296+c)*x+N:=by
 have e1:b*(x*4294967296)=b*x*4294967296:=(Nat.mul_assoc _ _ _).symm
 have e2:a*(x*4294967296*4294967296)=a*x*4294967296*4294967296:=by rw [<- Nat.mul_assoc,<- Nat.mul_assoc]
 have e3:((a*4294967296+b)*4294967296+c)*x=a*x*4294967296*4294967296+b*x*4294967296+c*x:=by
  rw [Nat.add_mul,Nat.mul_right_comm,Nat.add_mul (a*4294967296),Nat.mul_right_comm a,Nat.add_mul (a*x*4294967296)]
 omega
theorem qoe (p:Nat->Nat) (n:Nat) (hn:2<=n):nv p (n+1)=((p n*4294967296+p (n - 1))*4294967296+p (n - 2))*4294967296 ^ (n - 2)+nv p (n - 2):=by
 obtain ⟨m,rfl⟩ : ∃ m,n=m+2:=⟨n - 2,by omega⟩;rw [qa7,qa7,qa7];show nv p m+p m*4294967296 ^ m+p (m+1)*4294967296 ^ (m+1)+p (m+2)*4294967296 ^ (m+2)=((p (m+2)*4294967296+p (m+1))*4294967296+p m)*4294967296 ^ m+nv p m;rw [Nat.pow_succ 4294967296 (m+1),Nat.pow_succ];exact qls _ _ _ _ _
theorem qsj (p:Nat->Nat) (n:Nat) (hn:2<=n):nv p n=(p (n - 1)*4294967296+p (n - 2))*4294967296 ^ (n - 2)+nv p (n - 2):=by
 obtain ⟨m,rfl⟩ : ∃ m,n=m+2:=⟨n - 2,by omega⟩;rw [qa7,qa7];show nv p m+p m*4294967296 ^ m+p (m+1)*4294967296 ^ (m+1)=(p (m+1)*4294967296+p m)*4294967296 ^ m+nv p m;rw [Nat.pow_succ,Nat.add_mul,Nat.mul_comm (4294967296 ^ m) 4294967296,<- Nat.mul_assoc];omega
structure qkj (X Y T m k:Nat) (U Q:Nat->Nat):Prop where
 eq:nv U T+Y*(4294967296 ^ k*nv (fun t=>Q (k+t)) (m - k))=X
 lt:nv U T<Y*4294967296 ^ k
theorem qkj.congr {X Y T m k:Nat} {U Q Q':Nat->Nat} (h:qkj X Y T m k U Q) (hq : ∀ i,k<=i->Q' i=Q i):qkj X Y T m k U Q':=
 ⟨by rw [qaI (fun t=>Q' (k+t)) (fun t=>Q (k+t)) _ (fun i _=>hq _ (by omega))];exact h.eq,h.lt⟩
theorem qkj.part {X Y T m j n:Nat} {U Q:Nat->Nat} (h:qkj X Y T m (j+1) U Q) (hY:Y<4294967296 ^ n) (hT:j+(n+1)<=T):nv U T=nv U j+4294967296 ^ j*nv (fun i=>U (j+i)) (n+1)/\nv (fun i=>U (j+i)) (n+1)<Y*4294967296:=by
 have h1:nv U T<4294967296 ^ (j+(n+1)):=by
  refine Nat.lt_of_lt_of_le h.lt ?_;rw [show (4294967296:Nat) ^ (j+(n+1))=4294967296 ^ n*4294967296 ^ (j+1) by rw [<- Nat.pow_add];congr 1;omega];exact Nat.mul_le_mul_right _ (Nat.le_of_lt hY)
 have h2:=qqn hT h1;refine ⟨h2,?_⟩;have h3:=h.lt;rw [h2,Nat.pow_succ,<- Nat.mul_assoc,Nat.mul_right_comm] at h3
 have h4:4294967296 ^ j*nv (fun i=>U (j+i)) (n+1)<4294967296 ^ j*(Y*4294967296):=by
  rw [Nat.mul_comm (4294967296 ^ j) (Y*4294967296)];omega
 exact Nat.lt_of_mul_lt_mul_left h4
theorem qkj.next {X Y T m j n q R:Nat} {U U' Q:Nat->Nat} (h:qkj X Y T m (j+1) U Q) (hY:Y<4294967296 ^ n) (hT:j+(n+1)<=T) (hj:j<m) (hq:Q j=q) (hU : ∀ i,i<j∨j+(n+1)<=i->U' i=U i) (hR:nv (fun i=>U' (j+i)) (n+1)=R) (he:R+q*Y=nv (fun i=>U (j+i)) (n+1)) (hlt:R<Y) (hd : ∀ i,i<T->U i<4294967296):qkj X Y T m j U' Q:=by
 obtain ⟨h1,h2⟩:=h.part hY hT
 have hz : ∀ i,j+(n+1)<=i->i<T->U i=0:=fun i h3 h4=>by
  have h5:nv U T<4294967296 ^ (j+(n+1)):=by
   refine Nat.lt_of_lt_of_le h.lt ?_;rw [show (4294967296:Nat) ^ (j+(n+1))=4294967296 ^ n*4294967296 ^ (j+1) by rw [<- Nat.pow_add];congr 1;omega];exact Nat.mul_le_mul_right _ (Nat.le_of_lt hY)
  exact qpo h5 h3 h4
 have hv:nv U' T=nv U j+4294967296 ^ j*R:=by
  obtain ⟨r,rfl⟩ : ∃ r,T=j+(n+1)+r:=⟨T - (j+(n+1)),by omega⟩;rw [qaY U' (j+(n+1)) r,qaI (fun i=>U' (j+(n+1)+i)) (fun _=>0) r (fun i hi=>by rw [hU _ (.inr (by omega))];exact hz _ (by omega) (by omega)),qdb,Nat.mul_zero,Nat.add_zero,qaY,hR,qaI U' U j fun i hi=>hU i (.inl hi)]
 have hl:nv U j<4294967296 ^ j:=qcH U j fun i hi=>hd i (by omega);refine ⟨?_,?_⟩
 ·rw [<- h.eq,hv,h1,<- he];obtain ⟨r,hr⟩ : ∃ r,m - j=r+1:=⟨m - j - 1,by omega⟩;rw [hr,qdO,show m - (j+1)=r by omega,qaI (fun i=>Q (j+(i+1))) (fun t=>Q (j+1+t)) r (fun i _=>by rw [show j+(i+1)=j+1+i by omega])];show _+Y*(4294967296 ^ j*(Q (j+0)+_))=_;rw [Nat.add_zero,hq,Nat.pow_succ];generalize nv (fun t=>Q (j+1+t)) r=z;generalize 4294967296 ^ j=x;rw [Nat.mul_add x,Nat.mul_add Y,Nat.mul_add x];rw [show Y*(x*q)=x*(q*Y) by rw [Nat.mul_left_comm,Nat.mul_comm Y],show x*(4294967296*z)=x*4294967296*z from (Nat.mul_assoc _ _ _).symm];omega
 ·rw [hv,Nat.mul_comm Y];have:4294967296 ^ j*(R+1)<=4294967296 ^ j*Y:=Nat.mul_le_mul_left _ hlt;rw [Nat.mul_add,Nat.mul_one] at this;omega
theorem qm1 {P Y q R:Nat} {b:Bool} {x:Nat} (hY:0<Y) (h1:P / Y<=q) (h2:q<=P / Y+1) (he:R+q*Y=P+(if b then 1 else 0)*x) (hR:R<x):(b=false->R+q*Y=P/\R<Y)/\(b=true->P<q*Y/\0<q/\P - (q - 1)*Y<Y/\(q - 1)*Y<=P):=by
 obtain ⟨h3,h4⟩:=qoE hY h1 h2;have hdm:=Nat.div_add_mod' P Y;have hml:=Nat.mod_lt P hY;generalize P / Y=q0 at *;generalize P % Y=r0 at *;refine ⟨fun hb=>?_,fun hb=>?_⟩
 ·subst hb;simp only [Bool.false_eq_true,if_false,Nat.zero_mul,Nat.add_zero] at he;have h5:=h3 (by omega);rw [h5] at he;exact ⟨by rw [h5];exact he,by omega⟩
 ·subst hb;simp only [if_true,Nat.one_mul] at he
  have h5:P<q*Y:=by omega
  have h6:=h4 h5;rw [h6,Nat.add_sub_cancel];exact ⟨by rw [<- h6];exact h5,by omega,by omega,by omega⟩
theorem qoF {P Y q R R2 k x:Nat} (he:R+q*Y=P+x) (ha:R2+k*x=R+Y) (hq:0<q) (hR2:R2<x) (hle:(q - 1)*Y<=P) (hlt:P - (q - 1)*Y<Y) (hYx:Y<=x):R2+(q - 1)*Y=P/\R2<Y:=by
 obtain ⟨p,rfl⟩ : ∃ p,q=p+1:=⟨q - 1,by omega⟩;rw [Nat.add_sub_cancel] at hle hlt ⊢;rw [Nat.add_mul,Nat.one_mul] at he
 have h1:R2+k*x+p*Y=P+x:=by omega
 have hk:k=1:=by
  rcases Nat.lt_or_ge k 1 with h | h
  ·have:k=0:=by omega
   subst this;omega
  ·rcases Nat.lt_or_ge 1 k with h2 | h2
   ·have:2*x<=k*x:=Nat.mul_le_mul_right _ h2;omega
   ·omega
 subst hk;omega
theorem qq4 {x y s Q R:Nat} (hy:0<y) (h:R+y*2 ^ s*Q=x*2 ^ s) (hR:R<y*2 ^ s):Q=x / y/\R / 2 ^ s=x % y:=by
 have hp:0<2 ^ s:=Nat.pow_pos (by decide)
 have h1:x*2 ^ s / (y*2 ^ s)=Q:=by
  rw [<- h,Nat.add_mul_div_left _ _ (Nat.mul_pos hy hp),Nat.div_eq_of_lt hR,Nat.zero_add]
 have h2:x*2 ^ s % (y*2 ^ s)=R:=by
  rw [<- h,Nat.add_mul_mod_self_left,Nat.mod_eq_of_lt hR]
 rw [Nat.mul_div_mul_right _ _ hp] at h1;rw [Nat.mul_mod_mul_right] at h2;exact ⟨h1.symm,by rw [<- h2,Nat.mul_div_cancel _ hp]⟩
theorem qkO {V:Nat->Nat} {n s:Nat} (hn:0<n) (hV : ∀ i,i<n->V i<4294967296) (ht:V (n - 1)≠0) (hs:s<32) (hl:V (n - 1)*2 ^ s<4294967296):dlen (nv V n*2 ^ s)=n:=by
 obtain ⟨m,rfl⟩ : ∃ m,n=m+1:=⟨n - 1,by omega⟩;rw [Nat.add_sub_cancel] at ht hl;have hp:0<2 ^ s:=Nat.pow_pos (by decide);refine Nat.le_antisymm ((qan _ _).2 ?_) ?_
 ·obtain ⟨t,htt⟩ : ∃ t,32=s+t:=⟨32 - s,by omega⟩
  have e0:(4294967296:Nat)=2 ^ t*2 ^ s:=by rw [<- Nat.pow_add,Nat.add_comm,<- htt]
  have h1:V m<2 ^ t:=by
   rw [e0] at hl;exact Nat.lt_of_mul_lt_mul_right hl
  have h2:nv V (m+1)<(V m+1)*4294967296 ^ m:=by
   have:=qcH V m (fun i hi=>hV i (by omega));rw [qa7,Nat.add_mul,Nat.one_mul];omega
  have h3:nv V (m+1)*2 ^ s<2 ^ t*4294967296 ^ m*2 ^ s:=
   Nat.mul_lt_mul_of_pos_right (Nat.lt_of_lt_of_le h2 (Nat.mul_le_mul_right _ h1)) hp
  rw [show 2 ^ t*4294967296 ^ m*2 ^ s=4294967296 ^ (m+1) by rw [Nat.mul_right_comm,<- e0,Nat.pow_succ,Nat.mul_comm]] at h3;exact h3
 ·have h1:dlen (nv V (m+1))=m+1:=qgT V (m+1) hV (.inr ht);have h2:nv V (m+1)<=nv V (m+1)*2 ^ s:=Nat.le_mul_of_pos_right _ hp;have:=qal h2;omega


def qfG (M:Nat->Prop) (w:World) (x y:Nat) (e:Ending) (w':World):Prop:=∃ q r,e = .returned (.tuple #[q,r])/\qcY M w' q (x / y)/\qcY M w' r (x % y)/\Ext w w'
theorem qm0 {M : Nat -> Prop} (v v' : Value) (x y : Nat) (w : World) (hM : Mb M w) (h : qcc M w v x) (h' : qcc M w v' y) (hlt : x < y) :
  Calls Tryz.prog 162 #[v,v'] w (qfG M w x y):=by
 have CTR:=Lib.hid (qbu v' y w hM h')
 go_enter Tryz.func162,Tryz.ntmps162
 go_wp2;refine wp_scope_straight ?_;go_wp2_with (fail);refine CTR.out.mono ?_;rintro e w1 ⟨u1,rfl,hu1,he1⟩;have ctr:=qcK v u1 x y w1 (h.ext he1) hu1.toV;rw [qg4 hlt] at ctr;have CT2:=Lib.hid ctr;clear ctr CTR;go_wp2_with (fail);refine CT2.out.mono ?_;rintro e w2 ⟨rfl,he2⟩;have CT3:=Lib.hid (qbu v x w2 ((hM.ext he1).ext he2) ((h.ext he1).ext he2));have HE2:=Lib.hid (he1.trans he2);clear CT2;go_wp2_with (fail);refine CT3.out.mono ?_;rintro e w3 ⟨u3,rfl,hu3,he3⟩;have HF:Hid (qfG M w x y (.returned (.tuple #[.slice none 0 0,u3])) w3):=⟨_,_,rfl,by rw [Nat.div_eq_of_lt hlt];exact qcY.nil M w3,by rw [Nat.mod_eq_of_lt hlt];exact hu3,HE2.out.trans he3⟩;clear CT3 hu1 hu3 he1 he2 he3 h h' hM;go_wp2;exact bodyPost_ret (v:=.tuple #[.slice none 0 0,u3]) (by simp [results,Tryz.results162,go_sem]) rfl HF.out
theorem qnj {x y:Nat} (h:y<=x):qev x y=0∨qev x y=1:=by
 unfold qev;rw [if_neg (by omega)]
 split
 ·exact .inr rfl
 ·exact .inl rfl
theorem qkP {M : Nat -> Prop} (v v' : Value) (x y : Nat) (w : World) (hM : Mb M w) (h : qcc M w v x) (h' : qcc M w v' y) (hle : y <= x) (h1 : dlen y = 1) :
  Calls Tryz.prog 162 #[v,v'] w (qfG M w x y):=by
 have hy0:y≠0:=fun e=>by rw [e,qh0] at h1;omega
 have hyB:y<4294967296:=by have:=qca y;rw [h1] at this;simpa using this
 have CTR:=Lib.hid (qbu v' y w hM h')
 go_enter Tryz.func162,Tryz.ntmps162
 go_wp2;refine wp_scope_straight ?_;go_wp2_with (fail);refine CTR.out.mono ?_;rintro e w1 ⟨u1,rfl,hu1,he1⟩;have CT2:=Lib.hid (qcK v u1 x y w1 (h.ext he1) hu1.toV);obtain ⟨V,hV,hVv,_⟩:=hu1.len;rw [h1] at hV hVv;obtain ⟨ua,uc,rfl⟩:=qap hV;clear CTR;go_wp2_with (fail);refine CT2.out.mono ?_;rintro e w2 ⟨rfl,he2⟩
 have hcmp : ¬ qev x y<0:=by rcases qnj hle with h | h <;> omega
 generalize qev x y=cc at *;obtain ⟨b,o,rfl,hb,hc⟩:=qaz (hV.ext he2) (by omega);have c0:=hc 0 (by omega);rw [Nat.add_zero,show V 0=y by have:=hVv;simp [nv] at this;exact this] at c0;have CT3:=Lib.hid (qhF v x y w2 ((hM.ext he1).ext he2) ((h.ext he1).ext he2) (by omega) hyB);have HE2:=Lib.hid (he1.trans he2);have HM:=Lib.hid hM;clear CT2 hu1 hV hVv he1 he2 h h' hM hc;go_wp2_with (fail);refine CT3.out.mono ?_;rintro e w3 ⟨q,rfl,hq,he3⟩;have hr:x % y<y:=Nat.mod_lt _ (by omega);have HE3:=Lib.hid (HE2.out.trans he3);have HQ:=Lib.hid hq;have CT4:=Lib.hid (qme (M:=M) (x % y) w3 (HM.out.ext HE3.out) (by omega));have HMD:Hid (∃ rr,rr=x % y):=⟨_,rfl⟩;obtain ⟨rr,hrr⟩:=HMD.out;rw [<- hrr] at hr CT4;have HRR:=Lib.hid hrr;clear CT3 he3 hq c0 hb HMD;rw [<- hrr];clear hrr;go_wp2_with (fail);refine CT4.out.mono ?_;rintro e w4 ⟨r,rfl,hr4,he4⟩;have HF:Hid (qfG M w x y (.returned (.tuple #[q,r])) w4):=⟨q,r,rfl,HQ.out.ext he4,by rw [<- HRR.out];exact hr4,HE3.out.trans he4⟩;clear CT4 hr4 he4;go_wp2;exact bodyPost_ret (v:=.tuple #[q,r]) (by simp [results,Tryz.results162,go_sem]) rfl HF.out


structure DvS (gu j n bV oV:Nat) (U V:Nat->Nat) (w:World):Prop where
 a:w.cell? ⟨gu,j+n,none⟩=some (.int .u32 (U (j+n)))
 b:w.cell? ⟨gu,j+(n - 1),none⟩=some (.int .u32 (U (j+(n - 1))))
 c:w.cell? ⟨gu,j+(n - 2),none⟩=some (.int .u32 (U (j+(n - 2))))
 d:w.cell? ⟨bV,oV+(n - 1),none⟩=some (.int .u32 (V (n - 1)))
 e:w.cell? ⟨bV,oV+(n - 2),none⟩=some (.int .u32 (V (n - 2)))
theorem DvS.ext {gu j n bV oV:Nat} {U V:Nat->Nat} {w w':World} (h:DvS gu j n bV oV U V w) (he:Ext w w'):DvS gu j n bV oV U V w':=by
 have h1:=World.block_lt_of_cell? _ _ h.a;have h2:=World.block_lt_of_cell? _ _ h.d;exact ⟨by rw [he.cell h1];exact h.a,by rw [he.cell h1];exact h.b,by rw [he.cell h1];exact h.c,by rw [he.cell h2];exact h.d,by rw [he.cell h2];exact h.e⟩
theorem qkQ {x y s n la:Nat} {U Q:Nat->Nat} (hn:n=dlen y) (hy:y≠0) (hla:la=dlen x) (hle:n<=la) (hU:nv U (la+1)=x*2 ^ s):qkj (x*2 ^ s) (y*2 ^ s) (la+1) (la+1 - n) (la+1 - n) U Q:=by
 have hp:0<2 ^ s:=Nat.pow_pos (by decide);refine ⟨?_,?_⟩
 ·rw [Nat.sub_self];show nv U (la+1)+y*2 ^ s*(4294967296 ^ (la+1 - n)*0)=_;rw [Nat.mul_zero,Nat.mul_zero,Nat.add_zero,hU]
 rw [hU];have h1:=qmY y hy;have h2:=qca x;have hpos:=qeP hy;rw [<- hn] at h1 hpos;rw [<- hla] at h2
 have h3:4294967296 ^ la<=y*4294967296 ^ (la+1 - n):=by
  rw [show (4294967296:Nat) ^ la=4294967296 ^ (n - 1)*4294967296 ^ (la+1 - n) by rw [<- Nat.pow_add];congr 1;omega];exact Nat.mul_le_mul_right _ h1
 rw [Nat.mul_right_comm];exact Nat.mul_lt_mul_of_pos_right (Nat.lt_of_lt_of_le h2 h3) hp
theorem qsG {P V u2 u1 u0 v1 v2 k lp lv:Nat} (hP:P=((u2*4294967296+u1)*4294967296+u0)*4294967296 ^ k+lp) (hV:V=(v1*4294967296+v2)*4294967296 ^ k+lv) (hlv:lv<4294967296 ^ k) (hv2:v2<4294967296) (hlt:P<V*4294967296):u2<=v1:=by
 refine Classical.byContradiction fun hc=>?_
 have h1:V<(v1+1)*4294967296*4294967296 ^ k:=by
  have:(v1*4294967296+v2+1)*4294967296 ^ k<=(v1+1)*4294967296*4294967296 ^ k:=Nat.mul_le_mul_right _ (by omega);rw [Nat.add_mul _ 1,Nat.one_mul] at this;omega
 have h2:(v1+1)*4294967296*4294967296*4294967296 ^ k<=((u2*4294967296+u1)*4294967296+u0)*4294967296 ^ k:=Nat.mul_le_mul_right _ (by omega)
 have h3:(v1+1)*4294967296*4294967296*4294967296 ^ k=(v1+1)*4294967296*4294967296 ^ k*4294967296:=by rw [Nat.mul_right_comm]
 omega
theorem qh2 {M : Nat -> Prop} (v v' : Value) (x y : Nat) (w : World) (hM : Mb M w) (h : qcc M w v x) (h' : qcc M w v' y) (hle : y <= x) (h2 : 2 <= dlen y) (hL : dlen x + 1 <= 1099511627776) :
  Calls Tryz.prog 162 #[v,v'] w (qfG M w x y):=by
 obtain ⟨i0,hi,hz0,hz1,hz2⟩:=info_parts Tryz.info155
 have hy0:y≠0:=fun e=>by rw [e,qh0] at h2;omega
 have hlxy:dlen y<=dlen x:=qal hle;have CTR:=Lib.hid (qbu v' y w hM h')
 go_enter Tryz.func162,Tryz.ntmps162
 go_wp2;refine wp_scope_straight ?_;go_wp2_with (fail);refine CTR.out.mono ?_;rintro e w1 ⟨u1,rfl,hu1,he1⟩;have CT2:=Lib.hid (qcK v u1 x y w1 (h.ext he1) hu1.toV);obtain ⟨V0,hV0,hVv0,hVt0⟩:=hu1.len;obtain ⟨n,hn⟩ : ∃ n,n=dlen y:=⟨_,rfl⟩;rw [<- hn] at hV0 hVv0 hVt0 h2 hlxy;obtain ⟨ua,uc,rfl⟩:=qap hV0;have hVt:V0 (n - 1)≠0:=hVt0.resolve_left (by omega);have HVT:=Lib.hid hVt;have HN:=Lib.hid hn;have HVV0:=Lib.hid hVv0;have HV00:=Lib.hid hV0;have HX:=Lib.hid h;have HM:=Lib.hid hM;have HE1:=Lib.hid he1;have HY0:=Lib.hid hy0;have HLXY:=Lib.hid hlxy;have HLE:=Lib.hid hle;clear CTR hn hVt0 hVt hVv0 hV0 hu1 h h' hM he1 hy0 hlxy hle;go_wp2_with (fail);refine CT2.out.mono ?_;rintro e w2 ⟨rfl,he2⟩
 have hcmp : ¬ qev x y<0:=by rcases qnj HLE.out with h | h <;> omega
 generalize qev x y=cc at *;obtain ⟨b,o,rfl,hb,hc⟩:=qaz (HV00.out.ext he2) (by omega);have c0:=hc (n - 1) (by omega);have hVl:=HV00.out.2.1 (n - 1) (by omega);have CT3:=Lib.hid (qnt (V0 (n - 1)) w2 HVT.out hVl);have HE2:=Lib.hid (HE1.out.trans he2);have HV0:=Lib.hid (HV00.out.ext he2);have HVD0:=Lib.hid HV00.out.2.1
 have hn1:((n:Int) == 1)=false:=by simp;omega
 have hnL:n<=1099511627776:=HV0.out.1
 have k1:(0:Int)<=(n:Int) - 1:=by omega
 have k2:((n:Int) - 1).toNat=n - 1:=by omega
 have k3:(n:Int) - 1<(n:Int):=by omega
 clear CT2 he2 hc HV00;go_wp2_with (fail);refine CT3.out.mono ?_;rintro e w3 ⟨s,rfl,⟨hs1,hs2,hs3⟩,rfl⟩;have hdl:=qkO (by omega) HVD0.out HVT.out hs1 hs3;rw [HVV0.out] at hdl;have HDL:=Lib.hid hdl;clear hdl;have CT4:=Lib.hid (qmd (M:=M) _ y s w3 (HM.out.ext HE2.out) ⟨_,_,HV0.out,HVV0.out⟩ hs1 (by rw [HDL.out];exact hnL));clear CT3 c0 hb hs2 hs3;go_wp2_with (fail);refine CT4.out.mono ?_;rintro e w4 ⟨u4,rfl,hu4,he4⟩;obtain ⟨V,hV,hVv,hVt0⟩:=hu4.len;rw [HDL.out] at hV hVv hVt0;obtain ⟨va,vc,rfl⟩:=qap hV;have HVT2:Hid (V (n - 1)≠0):=hVt0.resolve_left (by omega);have HE4:=Lib.hid (HE2.out.trans he4);have HV:=Lib.hid hV;have HVV:=Lib.hid hVv;have CT5:=Lib.hid (qbu v x w4 (HM.out.ext HE4.out) (HX.out.ext HE4.out));clear CT4 hu4 he4 hVt0 hV hVv HVT HVD0 HVV0 HV0 hVl;go_wp2_with (fail);refine CT5.out.mono ?_;rintro e w5 ⟨u5,rfl,hu5,he5⟩;obtain ⟨_,hA,_,_⟩:=hu5.len;obtain ⟨la,hla⟩ : ∃ la,la=dlen x:=⟨_,rfl⟩
 have hlxy:n<=la:=by rw [hla,HN.out];exact (by have:=HLXY.out;rw [HN.out] at this;exact this)
 rw [<- hla] at hA hL;have HLA:=Lib.hid hla;obtain ⟨aa,ac,rfl⟩:=qap hA;have HE5:=Lib.hid (HE4.out.trans he5);have HV5:=Lib.hid (HV.out.ext he5);clear CT5 hu5 he5 hA HV hla
 go_wp2_with (first | (refine wpList_make_full _ rfl _ _ _ rfl w5.heap.size 155 i0 (.int .u32 0) 1 Tryz.underlying28 hi hz0 hz1 .i64 .i64 _ _ (la+1) rfl rfl ?c4 ?c5 ?c2 ?c3 ?c6 ?_))
 case c2=>rw [hz2];omega
 case c3=>unfold maxLen;omega
 case c4=>go_num
 case c5=>go_num
 case c6=>simp
 intro w6 hown hgrow;have HD6:Hid (qcW w6 w5.heap.size (la+1) (fun _=>0)):=⟨Blk.made1 hown,fun _ _=>(by decide:0<4294967296)⟩;have HE56:=Lib.hid (qaw hgrow)
 have hlx:dlen (x*2 ^ s)<=la+1:=by
  rw [qan,Nat.pow_succ,HLA.out];refine Nat.mul_lt_mul'' (qca x) ?_;exact Nat.lt_of_lt_of_le (Nat.pow_lt_pow_right (by decide) hs1) (by decide:2 ^ 32<=4294967296)
 have CT6:=Lib.hid (qmd (M:=M) v x s w6 (HM.out.ext (HE5.out.trans HE56.out)) (HX.out.ext (HE5.out.trans HE56.out)) hs1 (by omega));clear hown hgrow;go_wp2_with (fail);refine CT6.out.mono ?_;rintro e w7 ⟨u7,rfl,hu7,he7⟩;obtain ⟨Xd,hXd,hXv,_⟩:=hu7.len;obtain ⟨lx,hlx0⟩ : ∃ lx,lx=dlen (x*2 ^ s):=⟨_,rfl⟩;rw [<- hlx0] at hXd hXv hlx;obtain ⟨xa,xc,rfl⟩:=qap hXd
 have hxpos:0<lx:=by
  rw [hlx0];exact qeP (Nat.ne_of_gt (Nat.mul_pos (Nat.lt_of_lt_of_le (Nat.pos_of_ne_zero HY0.out) HLE.out) (Nat.pow_pos (by decide))))
 obtain ⟨xb,xo,rfl,hxb,hxc⟩:=qaz hXd hxpos;have hDz:=HD6.out.ext he7;have HXC:=Lib.hid hxc;have HXV:=Lib.hid hXv;have HXD:=Lib.hid hXd.2.1;have HE57:=Lib.hid (HE56.out.trans he7);clear CT6 hu7 he7 hXd hxc HD6 hlx0 hXv
 go_wp2_with (refine qbf rfl (.tmp 56) (.tmp 59) _ _ rfl 155 Tryz.underlying28 (by rw [hi];simp [hz1]) _ _ _ _ _ _ rfl rfl w5.heap.size 0 155 (la+1) _ hDz.1 lx ?k1 (fun i=>.int .u32 (Xd i)) ?k2 ?k3 ?k4 ?_)
 case k1=>show _=min _ _;omega
 case k2=>exact ⟨xb,xo,⟨rfl,rfl⟩,HXC.out⟩
 case k3=>omega
 case k4=>exact fun j hj=>rfl
 intro w8 hB8 hg8;have hD8:=qdN hB8 (fun _ _=>(by decide:0<4294967296)) HXD.out;have hV8:=qhE lx (la+1) Xd (by omega);generalize (fun i=>if 0<=i/\i<0+lx then Xd (i - 0) else 0)=U0 at hD8 hV8;rw [HXV.out] at hV8;have HD8:=Lib.hid hD8;have HE58:Hid (Ext w5 w8):=HE57.out.grown hg8 (fun k hk=>by cases hk;exact Nat.le_refl _);have HST:=Lib.hid (qkQ (Q:=fun _=>0) HN.out HY0.out HLA.out hlxy hV8);clear hB8 hg8 hD8 hV8 hDz HXC HXD HE57
 have m1:(la:Int)+1 - (n:Int)=((la+1 - n:Nat):Int):=by omega
 obtain ⟨m,hm⟩ : ∃ m,m=la+1 - n:=⟨_,rfl⟩;rw [<- hm] at HST m1;have HMM:=Lib.hid hm
 have hmn:m+n=la+1:=by omega
 clear hm
 go_wp2_with (first | (refine wpList_make_full _ rfl _ _ _ rfl w8.heap.size 155 i0 (.int .u32 0) 1 Tryz.underlying28 hi hz0 hz1 .i64 .i64 _ _ m rfl rfl ?c4 ?c5 ?c2 ?c3 ?c6 ?_))
 case c2=>rw [hz2];omega
 case c3=>unfold maxLen;omega
 case c4=>first | go_num | (simp;omega)
 case c5=>first | go_num | (simp;omega)
 case c6=>simp
 intro w9 hown hgrow;have HQ9:Hid (qcW w9 w8.heap.size m (fun _=>0)):=⟨Blk.made1 hown,fun _ _=>(by decide:0<4294967296)⟩;have HE89:=Lib.hid (qaw hgrow);have HD9:=Lib.hid (HD8.out.ext HE89.out);have hlt58:w5.heap.size<w8.heap.size:=HD8.out.1.lt;clear hown hgrow HD8;go_wp2;refine wp_label ?_;go_wp2
 go_loopw [13] (fun i wr=>∃ (k:Nat) (U Q:Nat->Nat),k<=m/\i = .int .i64 ((k:Int) - 1)/\Hid (qcW wr w5.heap.size (la+1) U)/\Hid (qcW wr w8.heap.size m Q)/\Hid (qkj (x*2 ^ s) (y*2 ^ s) (la+1) m k U Q)/\Hid (Ext w5 wr)) (fun i _=>(intOf i+1).toNat)
 case atStart=>exact ⟨m,U0,_,Nat.le_refl _,rfl,HD9,HQ9,HST,HE58.out.trans HE89.out⟩
 case round=>
  clear HST HQ9 HD9 HE89;obtain ⟨k,U,Q,hk,rfl,HDU,HDQ,HDI,HEX⟩:=hrel
  by_cases hk0:k=0
  ·subst hk0;have HYP:Hid (qcc M wr (.slice (some ⟨w8.heap.size,0,none⟩) m m) (nv Q m)):=⟨m,Q,qbr.of_blk HDQ.out.1 ((HM.out.ext (HE5.out.trans HE58.out)).new (Nat.le_refl _)) m (Nat.le_refl _) (by omega) (Nat.le_refl _) (by unfold maxLen;omega) (fun i _=>rfl) HDQ.out.2,rfl⟩;have HUP:Hid (qcc M wr (.slice (some ⟨w5.heap.size,0,none⟩) (la+1) (la+1)) (nv U (la+1))):=⟨la+1,U,qbr.of_blk HDU.out.1 ((HM.out.ext HE5.out).new (Nat.le_refl _)) (la+1) (Nat.le_refl _) (by omega) (Nat.le_refl _) (by unfold maxLen;omega) (fun i _=>rfl) HDU.out.2,rfl⟩
   have HDE:Hid (nv Q m=x / y/\nv U (la+1) / 2 ^ s=x % y):=by
    have h1:=HDI.out.eq;have h2:=HDI.out.lt;rw [Nat.pow_zero,Nat.one_mul,Nat.sub_zero] at h1;rw [Nat.pow_zero,Nat.mul_one] at h2;rw [qaI (fun t=>Q (0+t)) Q m (fun i _=>by rw [Nat.zero_add])] at h1;exact qq4 (Nat.pos_of_ne_zero HY0.out) h1 h2
   have CT7:=Lib.hid (qbu (.slice (some ⟨w8.heap.size,0,none⟩) m m) (nv Q m) wr (HM.out.ext (HE5.out.trans HEX.out)) HYP.out);clear HDI HDQ HDU;go_wp2_with (fail);refine CT7.out.mono ?_;rintro e wa ⟨qv,rfl,hqv,hea⟩;have CT8:=Lib.hid (qqt (M:=M) _ (nv U (la+1)) s wa ((HM.out.ext (HE5.out.trans HEX.out)).ext hea) (HUP.out.ext hea) hs1);have HQV:=Lib.hid hqv;have HEA:=Lib.hid ((HE5.out.trans HEX.out).trans hea);clear CT7 hqv hea;go_wp2_with (fail);refine CT8.out.mono ?_;rintro e wb ⟨rv,rfl,hrv,heb⟩;have HF:Hid (qfG M w x y (.returned (.tuple #[qv,rv])) wb):=⟨qv,rv,rfl,by rw [<- HDE.out.1];exact HQV.out.ext heb,by rw [<- HDE.out.2];exact hrv,HEA.out.trans heb⟩;clear CT8 hrv heb;go_wp2;exact bodyPost_ret (v:=.tuple #[qv,rv]) (by simp [results,Tryz.results162,go_sem]) rfl HF.out
  ·obtain ⟨j,hj⟩ : ∃ j,j=k - 1:=⟨k - 1,rfl⟩
   obtain rfl:k=j+1:=by omega
   rw [show ((j+1:Nat):Int) - 1=(j:Int) by omega];obtain ⟨vb,vo,rfl,hvb,hvc⟩:=qaz HV5.out (by omega)
   have hvw:vb<wr.heap.size:=by have:=HEX.out.size;omega
   have HYB:Hid (y*2 ^ s<4294967296 ^ n):=by rw [<- HDL.out];exact qca _
   obtain ⟨hP1,hP2⟩:=HDI.out.part HYB.out (by omega)
   have q1:(j:Int)<=(j:Int)+(n:Int)+1:=by omega
   have q2:(j:Int)+(n:Int)+1<=(la:Int)+1:=by omega
   have q3 : ¬ la+1=j:=by omega
   clear hj
   go_upto_region 17 with (fail)
   rw [show j+n+1 - j=n+1 by omega];have d5:DvS w5.heap.size j n vb vo U V wr:=⟨HDU.out.1.cell (by omega),HDU.out.1.cell (by omega),HDU.out.1.cell (by omega),by rw [HEX.out.cell hvb];exact hvc _ (by omega),by rw [HEX.out.cell hvb];exact hvc _ (by omega)⟩;have HSS:=Lib.hid (d5.ext (Ext.refl _).drew);have HVD:=Lib.hid HV5.out.2.1;obtain ⟨e2,he2⟩ : ∃ e,e=U (j+n):=⟨_,rfl⟩;obtain ⟨e1,he1⟩ : ∃ e,e=U (j+(n - 1)):=⟨_,rfl⟩;obtain ⟨e0,he0⟩ : ∃ e,e=U (j+(n - 2)):=⟨_,rfl⟩;obtain ⟨f1,hf1⟩ : ∃ e,e=V (n - 1):=⟨_,rfl⟩;obtain ⟨f0,hf0⟩ : ∃ e,e=V (n - 2):=⟨_,rfl⟩;have hP3:=qoe (fun i=>U (j+i)) n h2;have hY3:=qsj V n h2;have hlpl:nv (fun i=>U (j+i)) (n - 2)<4294967296 ^ (n - 2):=qcH _ _ fun i hi=>HDU.out.2 _ (by omega);have hlvl:nv V (n - 2)<4294967296 ^ (n - 2):=qcH _ _ fun i hi=>HVD.out _ (by omega);rw [<- HVV.out] at hP2
   have hf1p:0<f1:=by rw [hf1];exact Nat.pos_of_ne_zero HVT2.out
   have hb2:e2<4294967296:=by rw [he2];exact HDU.out.2 _ (by omega)
   have hb1:e1<4294967296:=by rw [he1];exact HDU.out.2 _ (by omega)
   have hb0:e0<4294967296:=by rw [he0];exact HDU.out.2 _ (by omega)
   have hc1:f1<4294967296:=by rw [hf1];exact HVD.out _ (by omega)
   have hc0:f0<4294967296:=by rw [hf0];exact HVD.out _ (by omega)
   simp only [<- he2,<- he1,<- he0] at hP3;rw [<- hf1,<- hf0] at hY3;obtain ⟨hest1,hest2⟩:=qsH hP3 hY3 hlpl hlvl hf1p hP2;have hu2:e2<=f1:=qsG hP3 hY3 hlvl hc0 hP2
   have hestL:qcd e2 e1 e0 f1 f0<4294967296:=by
    have:qcd e2 e1 e0 f1 f0<=4294967295:=Nat.min_le_left _ _;omega
   have HCE:=fun W=>Lib.hid (qiQ e2 e1 e0 f1 f0 W hu2 hb1 hb0 hf1p hc1 hc0);generalize qcd e2 e1 e0 f1 f0=est at *;have HEST:Hid (nv (fun i=>U (j+i)) (n+1) / nv V n<=est/\est<=nv (fun i=>U (j+i)) (n+1) / nv V n+1):=⟨hest1,hest2⟩;have HP1:=Lib.hid hP1;have HP2:=Lib.hid hP2;have hgr:=HEX.out.size
   have k4:((n:Int) - 2).toNat=n - 2:=by omega
   have k5:(0:Int)<=(n:Int) - 2:=by omega
   have k6:(n:Int) - 2<(n:Int)+1:=by omega
   have k7:(n:Int) - 1<(n:Int)+1:=by omega
   have k8:(n:Int) - 2<(n:Int):=by omega
   have k9:(n:Int)<(n:Int)+1:=by omega
   have k10:(1:Int)<=(n:Int):=by omega
   have k11:(2:Int)<=(n:Int):=by omega
   have kw1:IntKind.i64.wrap ((n:Int) - 1)=(n:Int) - 1:=IntWalk.i64_in _ (by omega);have kw2:IntKind.i64.wrap ((n:Int) - 2)=(n:Int) - 2:=IntWalk.i64_in _ (by omega);clear hP1 hP2 hP3 hY3 hlpl hlvl hest1 hest2 hu2 hb2 hb1 hb0 hc1 hc0 d5 hvc;refine qad (DvS w5.heap.size j n vb vo U V) 28 (by kernel_rfl) HSS.out (fun hHeld=>?_);(refine tkB [0,1,2,3,4,5,6,7,8,9,10,11,12,13,14,15,16,17,18,19,20,21,22,23,24,25] ?_;(iterate 26 (refine tk1 (oi:=?_) (v:=?_) (by kernel_rfl) (by first | exact hSn | exact hHeld) ?_ ?_ ?_ ?_ ?_;rotate_left 2;(simp only [xgA,xgB,xgC];rfl);rfl;(intro wS hSw;obtain ⟨S1,S2,S3,S4,S5⟩:=hSw;go_simp;try with_reducible rfl);(exact fun _ _ _ h=>h);(try simp only [Act.put,xgD,xgE,xgF])));refine tkE ?_);simp only [<- he2,<- he1,<- he0,<- hf1,<- hf0];clear he2 he1 he0 hf1 hf0 hgr q1 q2 q3 k4 k5 k6 k7 k8 k9 k10 k11 kw1 kw2;((refine qaa 26 (o:=?_) (by kernel_rfl) ?_ ?_;rotate_left 1;(simp only [xgA,xgB,xgC];rfl);intro K hK);go_simp;(refine ((HCE _).out).mono ?_);rintro e_ wz ⟨rfl,hee⟩;go_wp2_with (fail);(try clear hSn);(have hSn:=hHeld.ext hee);(refine hK.out _ _ (fun _=>hSn) ?_);clear hK K;(try simp only [Act.put,xgD,xgE,xgF]));have HE17:=Lib.hid ((Ext.refl wr).drew.trans hee);have hDQ:=HDQ.out.ext HE17.out;have hq1:=hDQ.1.cell (i:=j) (by omega);have hq2:=hDQ.1.frozen j
   have q4:j<m:=by omega
   (refine tkB [27] ?_;(iterate 1 (refine tk1 (oi:=?_) (v:=?_) (by kernel_rfl) (by first | exact hSn | exact hHeld) ?_ ?_ ?_ ?_ ?_;rotate_left 2;(simp only [xgA,xgB,xgC];rfl);rfl;(intro wS hSw;obtain ⟨S1,S2,S3,S4,S5⟩:=hSw;go_simp;try with_reducible rfl);(exact fun _ _ _ h=>h);(try simp only [Act.put,xgD,xgE,xgF])));refine tkE ?_);((refine qaa 28 (o:=?_) (by kernel_rfl) ?_ ?_;rotate_left 1;(simp only [xgA,xgB,xgC];rfl);intro K hK);go_simp;(refine hK.out _ _ (fun h=>absurd rfl h) ?_);clear hK K;refine qac (by kernel_rfl) ?_ _);rename_i wz;have hDQ2:=hDQ.set j est hestL;have hW2 : ∃ W2,W2=wz.setCell ⟨w8.heap.size,j,none⟩ (.int .u32 (est:Int)):=⟨_,rfl⟩;obtain ⟨W2,hW2⟩:=hW2
   have HE2W:Hid (Ext w5 W2):=by rw [hW2];exact (HEX.out.trans HE17.out).set (p:=⟨w8.heap.size,j,none⟩) (Nat.le_of_lt hlt58) _
   have HDU2:Hid (qcW W2 w5.heap.size (la+1) U):=by
    rw [hW2];have:=HDU.out.ext HE17.out;exact ⟨this.1.set_other (p:=⟨w8.heap.size,j,none⟩) (by show w5.heap.size≠w8.heap.size;omega) _,this.2⟩
   have HDQ2:Hid (qcW W2 w8.heap.size m (qa2 Q j est)):=by rw [hW2];exact hDQ2
   rw [<- hW2]
   have c1:W2.cell? ⟨w8.heap.size,j,none⟩=some (.int .u32 (est:Int)):=by
    rw [HDQ2.out.1.cell (by omega)];unfold qa2;rw [if_pos rfl]
   have hg2:w8.heap.size<W2.heap.size:=HDQ2.out.1.lt;have HSM:=Lib.hid (qmS w5.heap.size j n (la+1 - j) (la+1) (some ⟨vb,vo,none⟩) vc est U V W2 HDU2.out (by omega) (HV5.out.ext HE2W.out) (fun p hp=>by cases hp;show vb≠w5.heap.size;omega) hestL (by omega));clear hee hDQ hq1 hq2 hDQ2 hHeld hW2 HCE HSS;go_wp2_with (fail);refine HSM.out.mono ?_;rintro e_ W3 ⟨bb,U3,rfl,hS3,hR3⟩
   have HY0':Hid (0<nv V n):=by rw [HVV.out];exact Nat.mul_pos (Nat.pos_of_ne_zero HY0.out) (Nat.pow_pos (by decide))
   have hUp:nv (fun i=>U3 (j+i)) (n+1)<4294967296 ^ (n+1):=qcH _ _ fun i hi=>hS3.dg.2 _ (by omega);obtain ⟨hr1,hr2⟩:=qm1 (b:=bb) (x:=4294967296 ^ (n+1)) HY0'.out HEST.out.1 HEST.out.2 (by rw [<- hR3,Nat.mul_comm]) hUp;have HS3:=Lib.hid hS3;have HR3:=Lib.hid hR3;have HR1:=Lib.hid hr1;have HR2:=Lib.hid hr2;have HE3W:Hid (Ext w5 W3):=HE2W.out.grown hS3.gr (fun k hk=>by cases hk;exact Nat.le_refl _)
   have HDQ3:Hid (qcW W3 w8.heap.size m (qa2 Q j est)):=by
    refine ⟨HDQ2.out.1.of_heap (hS3.gr.block _ HDQ2.out.1.lt (fun e=>?_)),HDQ2.out.2⟩;simp only [Option.some.injEq] at e;omega
   clear hS3 hR3 hr1 hr2 hUp HSM HDQ2 c1;cases bb
   ·have HNX : Hid (qkj (x * 2 ^ s) (y * 2 ^ s) (la + 1) m j U3 (qa2 Q j est)) := by
     have h1:=HR1.out rfl
     have h2:qkj (x*2 ^ s) (y*2 ^ s) (la+1) m (j+1) U (qa2 Q j est):=HDI.out.congr fun i hi=>by unfold qa2;rw [if_neg (by omega)]
     exact h2.next HYB.out (by omega) q4 (by unfold qa2;rw [if_pos rfl]) (fun i hi=>HS3.out.same i (by omega)) rfl (by rw [<- HVV.out];exact h1.1) (by rw [<- HVV.out];exact h1.2) HDU.out.2
    have HDU3:=Lib.hid HS3.out.dg;clear HR1 HR2 HR3 HS3 HDI HDQ HDU HDU2;go_wp2
    go_roundw
    case rel=>exact ⟨j,U3,qa2 Q j est,by omega,by go_num,HDU3,HDQ3,HNX,HE3W⟩
    case measure=>simp [intOf]
   ·have h1:=HR2.out rfl;have hep:0<est:=h1.2.1;have H1:=Lib.hid h1
    have c3:W3.cell? ⟨w8.heap.size,j,none⟩=some (.int .u32 (est:Int)):=by
     rw [HDQ3.out.1.cell (by omega)];unfold qa2;rw [if_pos rfl]
    have c4:=HDQ3.out.1.frozen j;have hg3:=HDQ3.out.1.lt
    have kw:(est:Int) - 1=((est - 1:Nat):Int):=by omega
    have kw3:IntKind.u32.wrap ((est:Int) - 1)=(est:Int) - 1:=by rw [kw];exact wrap_u32 _ (by omega)
    clear h1 kw
    go_upto_region 20 with (fail)
    obtain ⟨W4,hW4⟩ : ∃ W4,W4=W3.setCell ⟨w8.heap.size,j,none⟩ (.int .u32 ((est:Int) - 1)):=⟨_,rfl⟩
    have hest1:est - 1<4294967296:=by omega
    have HE4W:Hid (Ext w5 W4):=by rw [hW4];exact HE3W.out.set (p:=⟨w8.heap.size,j,none⟩) (Nat.le_of_lt hlt58) _
    have HDU4:Hid (qcW W4 w5.heap.size (la+1) U3):=by
     rw [hW4];exact ⟨HS3.out.dg.1.set_other (p:=⟨w8.heap.size,j,none⟩) (by show w5.heap.size≠w8.heap.size;omega) _,HS3.out.dg.2⟩
    have HDQ4:Hid (qcW W4 w8.heap.size m (qa2 (qa2 Q j est) j (est - 1))):=by
     rw [hW4,show (est:Int) - 1=((est - 1:Nat):Int) by omega];exact HDQ3.out.set j _ hest1
    rw [<- hW4];have HAB:=Lib.hid (qkM w5.heap.size j n (la+1 - j) (la+1) (some ⟨vb,vo,none⟩) vc U3 V W4 HDU4.out (by omega) (HV5.out.ext HE4W.out) (fun p hp=>by cases hp;show vb≠w5.heap.size;omega) (by omega));clear c3 c4 hg3 kw3 hW4 HDQ3 HE3W;go_wp2_with (fail);refine HAB.out.mono ?_;rintro e_ W5 ⟨kk,U5,rfl,hS5,hR5⟩;have HE5W:Hid (Ext w5 W5):=HE4W.out.grown hS5.gr (fun k hk=>by cases hk;exact Nat.le_refl _)
    have HDQ5:Hid (qcW W5 w8.heap.size m (qa2 (qa2 Q j est) j (est - 1))):=by
     refine ⟨HDQ4.out.1.of_heap (hS5.gr.block _ HDQ4.out.1.lt (fun e=>?_)),HDQ4.out.2⟩;simp only [Option.some.injEq] at e;omega
    have HDU5:=Lib.hid hS5.dg
    have HNX:Hid (qkj (x*2 ^ s) (y*2 ^ s) (la+1) m j U5 (qa2 (qa2 Q j est) j (est - 1))):=by
     have h2:qkj (x*2 ^ s) (y*2 ^ s) (la+1) m (j+1) U (qa2 (qa2 Q j est) j (est - 1)):=HDI.out.congr fun i hi=>by unfold qa2;rw [if_neg (by omega),if_neg (by omega)]
     have h3:=HR3.out;simp only [if_true,Nat.one_mul] at h3;have h4:nv (fun i=>U5 (j+i)) (n+1)<4294967296 ^ (n+1):=qcH _ _ fun i hi=>hS5.dg.2 _ (by omega)
     have h5:nv V n<=4294967296 ^ (n+1):=by
      have h6:=qcH V n HVD.out;rw [Nat.pow_succ];omega
     have h7:=qoF (Y:=nv V n) h3 hR5 hep h4 H1.out.2.2.2 H1.out.2.2.1 h5;exact h2.next HYB.out (by omega) q4 (by unfold qa2;rw [if_pos rfl]) (fun i hi=>by rw [hS5.same i (by omega),HS3.out.same i (by omega)]) rfl (by rw [<- HVV.out];exact h7.1) (by rw [<- HVV.out];exact h7.2) HDU.out.2
    clear HAB hS5 hR5 H1 HR1 HR2 HR3 HS3 HDI HDQ HDU HDU2 HDU4 HDQ4;go_wp2
    go_roundw
    case rel=>exact ⟨j,U5,qa2 (qa2 Q j est) j (est - 1),by omega,by go_num,HDU5,HDQ5,HNX,HE5W⟩
    case measure=>simp [intOf]


theorem qmW {M : Nat -> Prop} (v v' : Value) (x y : Nat) (w : World) (hM : Mb M w) (h : qcc M w v x) (h' : qcc M w v' y) (hy : y ≠ 0) (hL : dlen x + 1 <= 1099511627776) :
  Calls Tryz.prog 162 #[v,v'] w (qfG M w x y):=by
 by_cases hlt:x<y
 ·exact qm0 v v' x y w hM h h' hlt
 ·by_cases h1:dlen y=1
  ·exact qkP v v' x y w hM h h' (by omega) h1
  ·exact qh2 v v' x y w hM h h' (by omega) (by have:=qeP hy;omega) hL
theorem qhY {M : Nat -> Prop} (b : Bool) (a : Option Addr) (n p : Nat) (z : Int) (w : World) (h : qbq M w (.bool b) (.slice a n p) z) :
  Calls Tryz.prog 127 #[.agg #[.bool b,.slice a n p]] w fun e w'=>e = .returned (.bool (decide (z=0)))/\Ext w w':=by
 have hE:Ext w (w.alloc (.cells #[.bool b,.slice a n p] 30)):=(Ext.refl w).alloc _;have HI:=Lib.hid (h.ext hE)
 have hz:(z.sign == 0)=decide (z=0):=by
  rw [Bool.eq_iff_iff,beq_iff_eq,decide_eq_true_iff,Int.sign_eq_zero_iff_zero]
 have HZ:=Lib.hid hz;clear h hz
 go_enter Tryz.func127,Tryz.ntmps127
 go_wp2_with (fail);refine (qdd _ _ z _ HI.out).mono ?_;rintro e w1 ⟨rfl,he1⟩;generalize z.sign=s at *;have HE:=Lib.hid (hE.trans he1);clear hE he1 HI;go_wp2;go_ret;exact ⟨by rw [HZ.out];rfl,HE.out⟩
theorem qnX (na nb:Bool) (x y:Nat):(sgn na x).tdiv (sgn nb y)=sgn (na != nb) (x / y):=by
 unfold sgn;cases na <;> cases nb <;> simp [Int.neg_tdiv,Int.tdiv_neg,Int.ofNat_tdiv]
theorem qnW (na nb:Bool) (x y:Nat):(sgn na x).tmod (sgn nb y)=sgn na (x % y):=by
 unfold sgn;cases na <;> cases nb <;> simp [Int.neg_tmod,Int.tmod_neg] <;> exact Int.tmod_eq_emod_of_nonneg (Int.natCast_nonneg _)
def qpL (M:Nat->Prop) (w:World) (y z:Int) (e:Ending) (w':World):Prop:=∃ (b:Bool) (a:Option Addr) (n p:Nat) (b2:Bool) (a2:Option Addr) (n2 p2:Nat),e = .returned (.tuple #[.agg #[.bool b,.slice a n p],.agg #[.bool b2,.slice a2 n2 p2],.int .i64 0])/\qbw M w' (.bool b) (.slice a n p) (y.tdiv z)/\qbw M w' (.bool b2) (.slice a2 n2 p2) (y.tmod z)/\Ext w w'
def qpK (g h:Nat) (b b':Bool) (w:World):Prop:=w.cell? ⟨g,0,none⟩=some (.bool b)/\w.cell? ⟨h,0,none⟩=some (.bool b')
theorem qpK.ext {g h:Nat} {b b':Bool} {w w':World} (k:qpK g h b b' w) (he:Ext w w'):qpK g h b b' w':=by
 have h1:=World.block_lt_of_cell? _ _ k.1;have h2:=World.block_lt_of_cell? _ _ k.2;exact ⟨by rw [he.cell h1];exact k.1,by rw [he.cell h2];exact k.2⟩
theorem qbO (w:World) {g k b o:Nat} (u:Value) (h:b≠g):(w.setCell ⟨g,k,none⟩ u).cell? ⟨b,o,none⟩=w.cell? ⟨b,o,none⟩:=
 World.cell?_of_block (Below.heap_setCell w ⟨g,k,none⟩ u b h)
theorem qtv {M' : Nat -> Prop} {w W : World} {g h : Nat} {t t' : TypeId} {f f' : Nat -> Value} (A B C D : Value) (hB : Blk W g t 2 f) (hC : Blk W h t' 2 f') (hne : g ≠ h) (hg : M' g) (hh : M' h) (hw : w.heap.size <= g) (hw' : w.heap.size <= h) (he : Ext w W) :
  ∃ WA WB,WA=(W.setCell ⟨g,0,none⟩ A).setCell ⟨g,1,none⟩ B/\WB=(WA.setCell ⟨h,0,none⟩ C).setCell ⟨h,1,none⟩ D /\
  (W.cell? ⟨g,0,none⟩=some (f 0)/\W.cell? ⟨g,1,none⟩=some (f 1)/\W.frozen? ⟨g,0,none⟩=false/\W.frozen? ⟨g,1,none⟩=false) /\
  (WA.cell? ⟨h,0,none⟩=some (f' 0)/\WA.cell? ⟨h,1,none⟩=some (f' 1)/\WA.frozen? ⟨h,0,none⟩=false/\WA.frozen? ⟨h,1,none⟩=false) /\
  (WB.cell? ⟨g,0,none⟩=some A/\WB.cell? ⟨g,1,none⟩=some B/\WB.cell? ⟨h,0,none⟩=some C/\WB.cell? ⟨h,1,none⟩=some D) /\
  Kp M' W WB/\Ext w WB/\(∀ b o,b≠g->WA.cell? ⟨b,o,none⟩=W.cell? ⟨b,o,none⟩)/\(∀ b o,b≠g->b≠h->WB.cell? ⟨b,o,none⟩=W.cell? ⟨b,o,none⟩)/\Ext w WA:=by
 have hB2:=(hB.set 0 A).set 1 B;have hC2:=(hC.set_other (p:=⟨g,0,none⟩) (fun e=>hne e.symm) A).set_other (p:=⟨g,1,none⟩) (fun e=>hne e.symm) B;have hC3:=(hC2.set 0 C).set 1 D;have hB3:=(hB2.set_other (p:=⟨h,0,none⟩) hne C).set_other (p:=⟨h,1,none⟩) hne D;refine ⟨_,_,rfl,rfl,⟨hB.cell (by omega),hB.cell (by omega),hB.frozen 0,hB.frozen 1⟩,⟨hC2.cell (by omega),hC2.cell (by omega),hC2.frozen 0,hC2.frozen 1⟩,⟨?_,?_,?_,?_⟩,?_,?_,?_,?_,?_⟩
 ·rw [hB3.cell (i:=0) (by omega)];simp [upd]
 ·rw [hB3.cell (i:=1) (by omega)];simp [upd]
 ·rw [hC3.cell (i:=0) (by omega)];simp [upd]
 ·rw [hC3.cell (i:=1) (by omega)];simp [upd]
 ·exact (((Kp.set _ _ hg _).trans (Kp.set _ _ hg _)).trans (Kp.set _ _ hh _)).trans (Kp.set _ _ hh _)
 ·exact (((he.set (p:=⟨g,0,none⟩) hw _).set (p:=⟨g,1,none⟩) hw _).set (p:=⟨h,0,none⟩) hw' _).set (p:=⟨h,1,none⟩) hw' _
 ·intro b o hb;rw [qbO _ _ hb,qbO _ _ hb]
 ·intro b o hb hb';rw [qbO _ _ hb',qbO _ _ hb',qbO _ _ hb,qbO _ _ hb]
 ·exact (he.set (p:=⟨g,0,none⟩) hw _).set (p:=⟨g,1,none⟩) hw _
theorem qsK {M : Nat -> Prop} (b : Bool) (a : Option Addr) (n p : Nat) (y : Int) (b' : Bool) (a' : Option Addr) (n' p' : Nat) (z : Int) (w : World) (hM : Mb M w) (h : qbq M w (.bool b) (.slice a n p) y) (h' : qbq M w (.bool b') (.slice a' n' p') z) (hz : z ≠ 0) (hL : dlen y.natAbs + 1 <= 1099511627776) :
  Calls Tryz.prog 126 #[.agg #[.bool b,.slice a n p],.agg #[.bool b',.slice a' n' p']] w (qpL M w y z):=by
 have hB0:=((((Blk.of_arr w #[.bool b,.slice a n p] 30 2 rfl).alloc (.cells #[.bool b',.slice a' n' p'] 30)).alloc (.cells #[.bool false,.slice none 0 0] 30)).alloc (.cells #[.bool false,.slice none 0 0] 30));have hB1:=(((Blk.of_arr (w.alloc (.cells #[.bool b,.slice a n p] 30)) #[.bool b',.slice a' n' p'] 30 2 rfl).alloc (.cells #[.bool false,.slice none 0 0] 30)).alloc (.cells #[.bool false,.slice none 0 0] 30));have hB2:=((Blk.of_arr ((w.alloc (.cells #[.bool b,.slice a n p] 30)).alloc (.cells #[.bool b',.slice a' n' p'] 30)) #[.bool false,.slice none 0 0] 30 2 rfl).alloc (.cells #[.bool false,.slice none 0 0] 30));have hB3:=Blk.of_arr (((w.alloc (.cells #[.bool b,.slice a n p] 30)).alloc (.cells #[.bool b',.slice a' n' p'] 30)).alloc (.cells #[.bool false,.slice none 0 0] 30)) #[.bool false,.slice none 0 0] 30 2 rfl;have hE0:Ext w ((((w.alloc (.cells #[.bool b,.slice a n p] 30)).alloc (.cells #[.bool b',.slice a' n' p'] 30)).alloc (.cells #[.bool false,.slice none 0 0] 30)).alloc (.cells #[.bool false,.slice none 0 0] 30)):=((((Ext.refl w).alloc _).alloc _).alloc _).alloc _;simp only [World.size_alloc] at hB1 hB2 hB3;have hM0:Mb (Mx M w.heap.size (w.heap.size+4)) ((((w.alloc (.cells #[.bool b,.slice a n p] 30)).alloc (.cells #[.bool b',.slice a' n' p'] 30)).alloc (.cells #[.bool false,.slice none 0 0] 30)).alloc (.cells #[.bool false,.slice none 0 0] 30)):=Mx.mb hM (by simp;omega) (by simp);have h0:=(h.more (M':=Mx M w.heap.size (w.heap.size+4)) (Mx.more (Nat.le_refl _))).ext hE0
 have h0':=(h'.more (M':=Mx M w.heap.size (w.heap.size+4)) (Mx.more (Nat.le_refl _))).ext hE0;generalize hW0:(((w.alloc (.cells #[.bool b,.slice a n p] 30)).alloc (.cells #[.bool b',.slice a' n' p'] 30)).alloc (.cells #[.bool false,.slice none 0 0] 30)).alloc (.cells #[.bool false,.slice none 0 0] 30)=W0 at *;have HW0:=Lib.hid hW0;have HB0:=Lib.hid hB0;have HB1:=Lib.hid hB1;have HB2:=Lib.hid hB2;have HB3:=Lib.hid hB3;have HE0:=Lib.hid hE0;have HM0:=Lib.hid hM0;have HI0:=Lib.hid h0;have HI1:=Lib.hid h0';clear h h' hM hW0 hB0 hB1 hB2 hB3 hE0 hM0 h0 h0'
 go_enter Tryz.func126,Tryz.ntmps126
 go_upto_region 1 with (fail)
 rw [HW0.out];have c00:=HB0.out.cell (i:=0) (by omega);have c01:=HB0.out.cell (i:=1) (by omega);have c10:=HB1.out.cell (i:=0) (by omega);have c11:=HB1.out.cell (i:=1) (by omega);simp only [arr] at c00 c01 c10 c11;have g0:=HB0.out.lt;have g1:=HB1.out.lt;have ctr:=qhY _ _ _ _ z W0 HI1.out;rw [decide_eq_false hz] at ctr;have CTR:=Lib.hid ctr;clear ctr;go_wp2_with (fail);refine CTR.out.mono ?_;rintro e w1 ⟨rfl,he1⟩;obtain ⟨nb,x1,hb1,hx1,hy1⟩:=HI0.out.ext he1;obtain ⟨nb',x2,hb2,hx2,hy2⟩:=HI1.out.ext he1;simp only [Value.bool.injEq] at hb1 hb2;subst hb1 hb2;have hx20:x2≠0:=fun e=>hz (by rw [hy2,e];unfold sgn;split <;> rfl);have CT2:=Lib.hid (qmW _ _ x1 x2 w1 (HM0.out.ext he1) hx1 hx2 hx20 (by rw [hy1,qa4] at hL;exact hL));have HY1:=Lib.hid hy1;have HY2:=Lib.hid hy2;have HE1:=Lib.hid he1;rw [<- he1.cell g0] at c00 c01;rw [<- he1.cell g1] at c10 c11;have g0:=Nat.lt_of_lt_of_le g0 he1.size;have g1:=Nat.lt_of_lt_of_le g1 he1.size;clear CTR hx1 hx2 hy1 hy2 he1 hx20 hz hL;go_wp2_with (fail);refine CT2.out.mono ?_;rintro e w2 ⟨q,r,rfl,hq,hr,he2⟩;obtain ⟨qa,qn,qc,rfl⟩:=hq.toV.form;obtain ⟨ra,rn,rc,rfl⟩:=hr.toV.form;have HE2:=Lib.hid ((HE1.out.trans he2).drew);have HQ:=Lib.hid (hq.toV.ext (Ext.refl w2).drew);have HR:=Lib.hid (hr.toV.ext (Ext.refl w2).drew);have HSS:Hid (qpK w.heap.size (w.heap.size+1) b b' w2.drew):=qpK.ext ⟨c00,c10⟩ (he2.drew);have HM2:=Lib.hid (HM0.out.ext HE2.out);clear CT2 hq hr he2 c00 c01 c10 c11
 go_upto_region 4 with (fail)
 refine qad (qpK w.heap.size (w.heap.size+1) b b') 13 (by kernel_rfl) HSS.out (fun hHeld=>?_);(refine tkB [0,1,2,3,4,5,7,8,9] ?_;(iterate 9 (refine tk1 (oi:=?_) (v:=?_) (by kernel_rfl) (by first | exact hSn | exact hHeld) ?_ ?_ ?_ ?_ ?_;rotate_left 2;(simp only [xgA,xgB,xgC];rfl);rfl;(intro wS hSw;obtain ⟨S1,S2⟩:=hSw;go_simp;try with_reducible rfl);(exact fun _ _ _ h=>h);(try simp only [Act.put,xgD,xgE,xgF])));refine tkE ?_);((refine qaa 6 (o:=?_) (by kernel_rfl) ?_ ?_;rotate_left 1;(simp only [xgA,xgB,xgC];rfl);intro K hK);go_simp;(refine (qgK (b != b') _ (x1 / x2) _ HM2.out HQ.out).mono ?_);rintro e_ wz ⟨k0,k1,rfl,hk,he3⟩;go_wp2_with (fail);(try clear hSn);(have hSn:=hHeld.ext he3);(refine hK.out _ _ (fun _=>hSn) ?_);clear hK K;(try simp only [Act.put,xgD,xgE,xgF]));obtain ⟨kb,ka,kn,kp,rfl,rfl⟩:=hk.form;((refine qaa 10 (o:=?_) (by kernel_rfl) ?_ ?_;rotate_left 1;(simp only [xgA,xgB,xgC];rfl);intro K hK);go_simp;(refine (qgK b _ (x1 % x2) _ (HM2.out.ext he3) (HR.out.ext he3)).mono ?_);rintro e_ wz ⟨m0,m1,rfl,hm,he4⟩;go_wp2_with (fail);(try clear hSn);(have hSn:=hHeld.ext (he3.trans he4));(refine hK.out _ _ (fun _=>hSn) ?_);clear hK K;(try simp only [Act.put,xgD,xgE,xgF]));rename_i wz;obtain ⟨mb,ma,mn,mp,rfl,rfl⟩:=hm.form;have HE4:=Lib.hid (HE2.out.trans (he3.trans he4));have HK:=Lib.hid (hk.ext he4);have HMm:=Lib.hid hm;have HSn:=Lib.hid hSn;obtain ⟨WA,WB,hWA,hWB,⟨q0,q1,q2,q3⟩,⟨p0,p1,p2,p3⟩,⟨r0,r1,r2,r3⟩,hkp,hext,hcA,hcB,_⟩:=qtv (M':=Mx M w.heap.size (w.heap.size+4)) (w:=w) (.bool kb) (.slice ka kn kp) (.bool mb) (.slice ma mn mp) (HB2.out.ext HE4.out) (HB3.out.ext HE4.out) (by omega) (Mx.at (by omega)) (Mx.at (by omega)) (by omega) (by omega) (HE0.out.trans HE4.out)
 have hSA:qpK w.heap.size (w.heap.size+1) b b' WA:=⟨by rw [hcA _ _ (by omega)];exact HSn.out.1,by rw [hcA _ _ (by omega)];exact HSn.out.2⟩;have hSB:qpK w.heap.size (w.heap.size+1) b b' WB:=⟨by rw [hcB _ _ (by omega) (by omega)];exact HSn.out.1,by rw [hcB _ _ (by omega) (by omega)];exact HSn.out.2⟩
 have HF:Hid (qpL M w y z (.returned (.tuple #[.agg #[.bool kb,.slice ka kn kp],.agg #[.bool mb,.slice ma mn mp],.int .i64 0])) WB):=
  ⟨_,_,_,_,_,_,_,_,rfl,by rw [HY1.out,HY2.out,qnX];exact (HK.out.kp hkp).more Mx.less,by rw [HY1.out,HY2.out,qnW];exact (HMm.out.kp hkp).more Mx.less,hext⟩
 have HWA:=Lib.hid hWA;have HWB:=Lib.hid hWB;have HPA:Hid ((WA.cell? ⟨w.heap.size+1+1+1,0,none⟩=some (.bool false)/\WA.cell? ⟨w.heap.size+1+1+1,1,none⟩=some (.slice none 0 0))/\WA.frozen? ⟨w.heap.size+1+1+1,0,none⟩=false/\WA.frozen? ⟨w.heap.size+1+1+1,1,none⟩=false):=⟨⟨p0,p1⟩,p2,p3⟩;simp only [arr] at q0 q1;clear hk hm he3 he4 hHeld hkp hext hcA hcB p0 p1 p2 p3 hWA hWB hSn;(refine qaa 11 (o:=?_) (by kernel_rfl) ?_ ?_;rotate_left 1;(simp only [xgA,xgB,xgC];rfl);intro K hK);go_simp;rw [<- HWA.out];refine hK.out _ _ (fun _=>hSA) ?_;clear hK K q0 q1 q2 q3 HWA;(try simp only [Act.put,xgD,xgE,xgF]);obtain ⟨⟨p0,p1⟩,p2,p3⟩:=HPA.out;(refine qaa 12 (o:=?_) (by kernel_rfl) ?_ ?_;rotate_left 1;(simp only [xgA,xgB,xgC];rfl);intro K hK);go_simp;rw [<- HWB.out];refine hK.out _ _ (fun _=>hSB) ?_;clear hK K p0 p1 p2 p3 HWB;(try simp only [Act.put,xgD,xgE,xgF]);((refine qaa 13 (o:=?_) (by kernel_rfl) ?_ ?_;rotate_left 1;(simp only [xgA,xgB,xgC];rfl);intro K hK);go_simp;(refine hK.out _ _ (fun h=>absurd rfl h) ?_);clear hK K;refine qac (by kernel_rfl) ?_ _);clear hSA hSB;go_wp2;exact bodyPost_ret (v:=.tuple #[.agg #[.bool kb,.slice ka kn kp],.agg #[.bool mb,.slice ma mn mp],.int .i64 0]) (by simp [results,Tryz.results126,go_sem,r0,r1,r2,r3]) rfl HF.out




abbrev zI:Array Value:=#[.bool false,.slice none 0 0]
structure I4 where
 b:Bool
 a:Option Addr
 n:Nat
 p:Nat
def C2 (g:Nat) (x:I4) (w:World):Prop:=w.cell? ⟨g,0,none⟩=some (.bool x.b)/\w.cell? ⟨g,1,none⟩=some (.slice x.a x.n x.p)
end Go.Proofs.YtmcfpnmoklnhoaaGreat
