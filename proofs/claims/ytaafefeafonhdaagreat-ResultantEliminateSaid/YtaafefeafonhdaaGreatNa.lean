/- Na -/
import Derived.Test.YtaafefeafonhdaaGreatMh
set_option linter.unusedVariables false
set_option maxRecDepth 100000
set_option maxHeartbeats 400000000
set_option linter.unusedSimpArgs false
namespace Go.Proofs.YtaafefeafonhdaaGreat
def gL(u2 u1 u0 v1 v2:Nat):Nat:=min 4294967295 (((u2*4294967296+u1)*4294967296+u0)/(v1*4294967296+v2))
theorem qj8{u2 u1 u0 v1 v2 q:Nat}(hv:0<v1)(hq:q<=4294967295)(jy:gL u2 u1 u0 v1 v2<=q)(h:q*(v1*4294967296+v2)<=(u2*4294967296+u1)*4294967296+u0):q=gL u2 u1 u0 v1 v2:=by
 have h1:q<=((u2*4294967296+u1)*4294967296+u0)/(v1*4294967296+v2):=(Nat.le_div_iff_mul_le (by omega)).2 h;unfold gL at jy⊢;exact Nat.le_antisymm (Nat.le_min.2 ⟨hq,h1⟩) jy
theorem qvR{u2 u1 u0 v1 v2 q:Nat}(hv:0<v1)(jy:gL u2 u1 u0 v1 v2<=q)(h:(u2*4294967296+u1)*4294967296+u0<q*(v1*4294967296+v2)):0<q/\gL u2 u1 u0 v1 v2<=q-1:=by
 have h1:((u2*4294967296+u1)*4294967296+u0)/(v1*4294967296+v2)<q:=(Nat.div_lt_iff_lt_mul (by omega)).2 h;unfold gL at jy⊢;refine⟨Nat.lt_of_le_of_lt (bu _) h1,?_⟩;exact aK (Nat.min_le_right _ _) (Nat.le_sub_one_of_lt h1)
theorem qj6{u2 u1 u0 v1 v2:Nat}(hv:0<v1)(hu:u0<4294967296):gL u2 u1 u0 v1 v2<=(u2*4294967296+u1)/v1:=by
 rw[Nat.le_div_iff_mul_le hv]
 have h1:gL u2 u1 u0 v1 v2*(v1*4294967296+v2)<=(u2*4294967296+u1)*4294967296+u0:=by
  refine aK (fq _ (Nat.min_le_right _ _)) ?_;exact Nat.div_mul_le_self _ _
 generalize gL u2 u1 u0 v1 v2=q at*;rw[Nat.mul_add, <-Nat.mul_assoc]at h1;omega
theorem qvS{P V u2 u1 u0 v1 v2 k lp lv:Nat}(hP:P=((u2*4294967296+u1)*4294967296+u0)*4294967296^k+lp)(hV:V=(v1*4294967296+v2)*4294967296^k+lv)(hlp:lp<4294967296^k)(iH:lv<4294967296^k)(hv:0<v1)(hlt:P<V*4294967296):
 P/V<=gL u2 u1 u0 v1 v2/\gL u2 u1 u0 v1 v2<=P/V+1:=by
 have hpk:=X0 k
 have Kk:0<V:=by
  rw[hV];have:0<(v1*4294967296+v2)*4294967296^k:=Nat.mul_pos (by omega) hpk;omega
 have hq1:P/V<=4294967295:=by
  have:P/V<4294967296:=(Nat.div_lt_iff_lt_mul Kk).2 (by rw[Nat.mul_comm];exact hlt);omega
 have hqV:P/V*V<=P:=Nat.div_mul_le_self _ _;obtain⟨U,hU⟩:∃U,(u2*4294967296+u1)*4294967296+u0=U:=⟨_,rfl⟩;obtain⟨W,hW⟩:∃W,v1*4294967296+v2=W:=⟨_,rfl⟩;rw[hU]at hP;rw[hW]at hV
 have fK:4294967296<=W:=by omega
 constructor
 ·have h1:P/V*W<=U:=by
   have h2:P/V*W*4294967296^k<(U+1)*4294967296^k:=by
    have h3:P/V*(W*4294967296^k)<=P/V*V:=Nat.mul_le_mul_left _ (by omega);rw[<-Nat.mul_assoc]at h3;rw[Nat.add_mul,Nat.one_mul];omega
   have:=Nat.lt_of_mul_lt_mul_right h2;omega
  have h4:P/V<=U/W:=(Nat.le_div_iff_mul_le (by omega)).2 h1;unfold gL;rw[hU,hW];exact Nat.le_min.2 ⟨hq1,h4⟩
 ·have ah:gL u2 u1 u0 v1 v2<=4294967295:=Nat.min_le_left _ _
  have az:gL u2 u1 u0 v1 v2*W<=U:=by
   have:gL u2 u1 u0 v1 v2<=U/W:=by unfold gL;rw[hU,hW];exact Nat.min_le_right _ _
   exact aK (fq _ this) (Nat.div_mul_le_self _ _)
  refine gQ λhc=>?_;generalize gL u2 u1 u0 v1 v2=q at*
  have EM:P<(P/V+1)*V:=by
   have:=Nat.lt_div_mul_add (a:=P) Kk;rw[Nat.add_mul,Nat.one_mul];omega
  have h5:(P/V+1)*V<=(q-1)*V:=fq _ (by omega)
  have h6:(q-1)*V=q*V-V:=by rw[Nat.sub_mul,Nat.one_mul]
  have h7:q*V=q*W*4294967296^k+q*lv:=by rw[hV,Nat.mul_add,Nat.mul_assoc]
  have h8:q*W*4294967296^k<=U*4294967296^k:=fq _ az;have h9:q*lv<=4294967295*4294967296^k:=Nat.mul_le_mul ah (by omega);have Q6:4294967296*4294967296^k<=W*4294967296^k:=fq _ fK;omega
theorem qu6{P V q:Nat}(hV:0<V)(h1:P/V<=q)(h2:q<=P/V+1):(q*V<=P->q=P/V)/\(P<q*V->q=P/V+1):=by
 have h3:P/V*V<=P:=Nat.div_mul_le_self _ _;refine⟨λh=>?_,λh=>?_⟩
 ·have:q<=P/V:=(Nat.le_div_iff_mul_le hV).2 h;omega
 ·by_cases hq:q=P/V
  ·rw[hq]at h;omega
  ·omega
theorem qrk{Sp Sv Sr c b p v d low hi r b' x:Nat}(hinv:Sr+d*Sv=Sp+(b+c)*x)(hm:v*d+c=low+hi*4294967296)(hs:r+low+b=p+b'*4294967296):
 Sr+r*x+d*(Sv+v*x)=Sp+p*x+(b'+hi)*(x*4294967296):=by
 have e1:r*x+low*x+b*x=p*x+b'*(x*4294967296):=by
  rw[<-Nat.add_mul, <-Nat.add_mul,hs,Nat.add_mul,Nat.mul_assoc,Nat.mul_comm 4294967296 x]
 have e2:v*d*x+c*x=low*x+hi*(x*4294967296):=by
  rw[<-Nat.add_mul,hm,Nat.add_mul,Nat.mul_assoc,Nat.mul_comm 4294967296 x]
 have e3:d*(Sv+v*x)=d*Sv+v*d*x:=by rw[Nat.mul_add, <-Nat.mul_assoc,Nat.mul_comm d v]
 rw[Nat.add_mul]at hinv⊢;omega
end Go.Proofs.YtaafefeafonhdaaGreat
namespace Go.Proofs.YtaafefeafonhdaaGreat
open Go.RowKit
theorem wrap_u64(n:Nat)(h:n<18446744073709551616):IntKind.u64.wrap (n:Int)=n:=by
 exact IntWalk.u64_in _ (by omega)
theorem qjl(n:Nat)(h:n<18446744073709551616):(BitVec.ofInt IntKind.u64.bits (n:Int)).toNat=n:=by
 simp[IntKind.bits];omega
theorem qjh(a b:Nat)(ha:a<18446744073709551616)(hb:b<18446744073709551616):bits BinOp.or .u64 a b=((a|||b:Nat):Int):=by
 unfold bits;have h1:=qjl a ha;have h2:=qjl b hb;simp only[BitVec.toNat_or,h1,h2];rw[wrap_u64];exact Nat.or_lt_two_pow (n:=64) ha hb
theorem qpW(x y:Nat)(hy:y<4294967296):x*4294967296|||y=x*4294967296+y:=by
 have:=Nat.two_pow_add_eq_or_of_lt (i:=32) (b:=y) hy x;rw[Nat.mul_comm x];exact this.symm
theorem qpV(x y:Nat)(hx:x<4294967296)(hy:y<4294967296):bits BinOp.or .u64 ((x:Int)*4294967296) (y:Int)=((x*4294967296+y:Nat):Int):=by
 have:=qjh (x*4294967296) y (by omega) (by omega);rw[qpW x y hy]at this;rw[<-this];simp
theorem qjf(hi lo y:Nat)(w:World)(h1:hi<y)(hl:lo<4294967296)(hy:y<4294967296):
 Calls Tryz.prog 155 #[.int .u32 hi,.int .u32 lo,.int .u32 y] w λe w'=>
  e=.returned (.tuple #[.int .u32 (((hi*4294967296+lo)/y:Nat):Int),.int .u32 (((hi*4294967296+lo)%y:Nat):Int)])/\w'=w.drew:=by
 have UE:=ae (qpV hi lo (by omega) hl);have xQ:IntKind.u64.signed=false:=rfl
 have qL:((y:Int)==0)=false:=by simp;omega
 have jX:¬((y:Int)<=(hi:Int)):=by omega
 go_enter Tryz.func155,Tryz.ntmps155
 go_wp2;rw[UE.out];obtain⟨Z,hZ⟩:∃Z,Z=hi*4294967296+lo:=⟨_,rfl⟩
 have hq:Z/y<4294967296:=by
  rw[Nat.div_lt_iff_lt_mul (by omega),hZ,Nat.mul_comm];have:(hi+1)*4294967296<=y*4294967296:=fq _ (by omega);omega
 have hr:Z%y<y:=Nat.mod_lt _ (by omega)
 have qFC:(Z:Int)<18446744073709551616:=by omega
 rw[<-hZ];have HZ:=ae hZ;clear UE hZ;have e1:(Z:Int)/(y:Int)=((Z/y:Nat):Int):=(Int.natCast_ediv Z y).symm;have e2:(Z:Int)%(y:Int)=((Z%y:Nat):Int):=(Int.natCast_emod Z y).symm;have e3:IntKind.u64.wrap (y:Int)=y:=wrap_u64 y (by omega);obtain⟨q,qK⟩:∃q,q=Z/y:=⟨_,rfl⟩;obtain⟨r,yZ⟩:∃r,r=Z%y:=⟨_,rfl⟩;rw[<-qK]at hq e1;rw[<-yZ]at hr e2;have e4:IntKind.u64.wrap (q:Int)=q:=wrap_u64 q (by omega);have e5:IntKind.u32.wrap (q:Int)=q:=wrap_u32 q hq;have e6:IntKind.u64.wrap (r:Int)=r:=wrap_u64 r (by omega);have e7:IntKind.u32.wrap (r:Int)=r:=wrap_u32 r (by omega);have e8:IntKind.u64.wrap (Z:Int)=Z:=wrap_u64 Z (by omega)
 have ui:¬(y:Int)=0:=by omega
 have e9:(Z:Int).tmod (y:Int)=r:=by rw[Int.tmod_eq_emod_of_nonneg (by omega)];exact e2
 have Md:=ae qK;have Qa:=ae yZ;clear qK yZ;refine fB EC 11 trivial λhHeld=>?_;refine bH [0,1,2,3,4,5,6,7,8,9,10] ?_;(iterate 11 refine bG ?_);refine bI ?_
 (refine aI 11 λK hK=>?_);go_simp;(refine fz hK ?_);clear hK K
 go_wp2;exact aV (v:=.tuple #[.int .u32 q,.int .u32 r]) (by simp[results,Tryz.results155,go_sem]) rfl ⟨by rw[<-HZ.out, <-Md.out, <-Qa.out],rfl⟩
def Tryz.qAi:Go.Shelf.Ren:=⟨λ |133=>134|128=>128|n=>n,λ |46=>127|3=>3|51=>140|53=>100|4=>4|5=>5|9=>9|n=>n,λ |n=>n⟩
theorem Tryz.qAh:Go.Proofs.Lays.n133 Tryz.prog Tryz.qAi:={
 mixed:=by kernel_rfl
 f128:=Tryz.func128.trans (congrArg some (by kernel_rfl))
 f133:=Tryz.func134.trans (congrArg some (by kernel_rfl))
 t3:=Tryz.underlying3
 a3:=Tryz.isAgg3
 z3:=Tryz.sizeOf3
 v3:=Tryz.zeroValue3
 t4:=Tryz.underlying4
 a4:=Tryz.isAgg4
 z4:=Tryz.sizeOf4
 v4:=Tryz.zeroValue4
 t5:=Tryz.underlying5
 a5:=Tryz.isAgg5
 z5:=Tryz.sizeOf5
 v5:=Tryz.zeroValue5
 t9:=Tryz.underlying9
 a9:=Tryz.isAgg9
 z9:=Tryz.sizeOf9
 v9:=Tryz.zeroValue9
 t46:=Tryz.underlying127
 a46:=Tryz.isAgg127
 z46:=Tryz.sizeOf127
 v46:=Tryz.zeroValue127
 t51:=Tryz.underlying140
 a51:=Tryz.isAgg140
 z51:=Tryz.sizeOf140
 v51:=Tryz.zeroValue140}
theorem qjd:∀(k x:Nat),x<2^64->2^k<=x->x<2^(k+1)->Lib.bitLen x=k+1
 |0,x,_,h1,h2=>by
  have:x=1:=by omega
  subst this;decide
 |k+1,x,h,h1,h2=>by
  have e:2^(k+1)=2*2^k:=by rw[Nat.pow_succ];omega
  have e2:2^(k+1+1)=2*2^(k+1):=by rw[Nat.pow_succ];omega
  have hp:0<2^k:=Nat.pow_pos (by decide);rw[Lib.bitLen_half x (by omega) h,qjd k (x/2) (by omega) (by omega) (by omega)];omega
theorem qAj(x:Nat)(h0:x≠0)(h:x<4294967296):∃s:Nat,32-(Lib.bitLen x:Int)=s/\s<32/\2147483648<=x*2^s/\x*2^s<4294967296:=by
 obtain⟨k,kU,mH⟩:∃k,2^k<=x/\x<2^(k+1):=⟨x.log2,Nat.log2_self_le h0,Nat.lt_log2_self⟩
 have hk:k<32:=by
  refine gQ λhc=>?_;have:2^32<=2^k:=Nat.pow_le_pow_right (by decide) (by omega);omega
 have hb:=qjd k x (by omega) kU mH;refine⟨31-k,by rw[hb];omega,by omega,?_,?_⟩
 ·have:2^k*2^(31-k)<=x*2^(31-k):=fq _ kU;rw[<-Nat.pow_add,show k+(31-k)=31 by omega]at this;exact this
 ·have:x*2^(31-k)<2^(k+1)*2^(31-k):=Nat.mul_lt_mul_of_pos_right mH (Nat.pow_pos (by decide));rw[<-Nat.pow_add,show k+1+(31-k)=32 by omega]at this;exact this
theorem qtZ(x:Nat)(w:World)(h0:x≠0)(h:x<4294967296):
 Calls Tryz.prog 134 #[.int .u32 x] w λe w'=>∃s:Nat,e=.returned (.int .i64 s)/\(s<32/\2147483648<=x*2^s/\x*2^s<4294967296)/\w'=w:=by
 obtain⟨s,h1,h2⟩:=qAj x h0 h;refine(Go.Proofs.Any.bits_LeadingZeros32 Tryz.qAh (x:Int) w (by omega) (by omega)).mono ?_;rintro e w' ⟨rfl,rfl⟩;exact⟨s,by rw[<-h1];rfl,h2,rfl⟩
theorem qj9{X r u0:Nat}(hu:u0<4294967296):(X<=r*4294967296+u0)↔(X/4294967296<r\/(X/4294967296=r/\X%4294967296<=u0)):=by omega
theorem qbU{q v1 v2 r u2 u1 u0:Nat}(h:q*v1+r=u2*4294967296+u1):(q*(v1*4294967296+v2)<=(u2*4294967296+u1)*4294967296+u0)↔(q*v2<=r*4294967296+u0):=by
 rw[<-h,Nat.mul_add, <-Nat.mul_assoc,Nat.add_mul];omega
theorem qj7{u2 u1 u0 v1 v2:Nat}(hv:0<v1)(hv2:v2<4294967296)(q r o:Nat)(hq:q<=4294967295)(jy:gL u2 u1 u0 v1 v2<=q)(he:q*v1+(r+o*4294967296)=u2*4294967296+u1)(ho:0<o):q=gL u2 u1 u0 v1 v2:=by
 refine qj8 hv hq jy ((qbU he).2 ?_);have h3:q*v2<=4294967295*4294967295:=Nat.mul_le_mul hq (by omega);omega
theorem qj3{u2 u1 u0 v1 v2:Nat}(hv:0<v1)(h0:u0<4294967296)(q r:Nat)(hq:q<=4294967295)(jy:gL u2 u1 u0 v1 v2<=q)(he:q*v1+r=u2*4294967296+u1)(hc:kD q v2<r\/(kD q v2=r/\iB q v2<=u0)):q=gL u2 u1 u0 v1 v2:=
 qj8 hv hq jy ((qbU he).2 ((qj9 h0).2 hc))
theorem qj4{u2 u1 u0 v1 v2:Nat}(hv:0<v1)(h0:u0<4294967296)(q r:Nat)(jy:gL u2 u1 u0 v1 v2<=q)(he:q*v1+r=u2*4294967296+u1)(hc:¬(kD q v2<r\/(kD q v2=r/\iB q v2<=u0))):0<q/\gL u2 u1 u0 v1 v2<=q-1/\(q-1)*v1+(r+v1)=u2*4294967296+u1:=by
 have h3:=qvR (u0:=u0) (v2:=v2) hv jy (Nat.lt_of_not_le λh=>hc ((qj9 h0).1 ((qbU he).1 h)));refine⟨h3.1,h3.2,?_⟩;obtain⟨p,rfl⟩:∃p,q=p+1:=⟨q-1,by omega⟩;rw[Nat.add_sub_cancel];rw[Nat.add_mul,Nat.one_mul]at he;omega
theorem qj5(u2 u1 v1:Nat)(h2:u2<v1)(h1:u1<4294967296):∃q0 r0,q0=(u2*4294967296+u1)/v1/\r0=(u2*4294967296+u1)%v1/\q0<4294967296/\r0<v1/\Hid (q0*v1+(r0+0*4294967296)=u2*4294967296+u1):=by
 refine⟨_,_,rfl,rfl,?_,Nat.mod_lt _ (by omega),?_⟩
 ·refine Nat.div_lt_of_lt_mul ?_;have:(u2+1)*4294967296<=v1*4294967296:=fq _ (by omega);omega
 ·show _=_;rw[Nat.zero_mul,Nat.add_zero];exact Nat.div_add_mod' _ _
theorem qvo(u2 u1 u0 v1 v2:Nat)(w:World)(h2:u2=v1)(h1:u1<4294967296)(h0:u0<4294967296)(hv:0<v1)(hv1:v1<4294967296)(hv2:v2<4294967296):
 Calls Tryz.prog 136 #[.int .u32 u2,.int .u32 u1,.int .u32 u0,.int .u32 v1,.int .u32 v2] w λe w'=>e=.returned (.int .u32 (gL u2 u1 u0 v1 v2:Nat))/\Ext w w':=by
 have kR:Hid (∀q r o:Nat,q<=4294967295->gL u2 u1 u0 v1 v2<=q->q*v1+(r+o*4294967296)=u2*4294967296+u1->0<o->q=gL u2 u1 u0 v1 v2):=qj7 hv hv2;have iO:Hid (∀q r:Nat,q<=4294967295->gL u2 u1 u0 v1 v2<=q->q*v1+r=u2*4294967296+u1->(kD q v2<r\/(kD q v2=r/\iB q v2<=u0))->q=gL u2 u1 u0 v1 v2):=qj3 hv h0;have BQ:Hid (∀q r:Nat,gL u2 u1 u0 v1 v2<=q->q*v1+r=u2*4294967296+u1->¬(kD q v2<r\/(kD q v2=r/\iB q v2<=u0))->0<q/\gL u2 u1 u0 v1 v2<=q-1/\(q-1)*v1+(r+v1)=u2*4294967296+u1):=qj4 hv h0;have Em:=ae (qj6 (u2:=u2) (u1:=u1) (v2:=v2) hv h0);have HL3:Hid (gL u2 u1 u0 v1 v2<=4294967295):=Nat.min_le_left _ _;generalize hE:gL u2 u1 u0 v1 v2=E at*;clear hE
 obtain rfl:u2=v1:=by omega
 have aJ:=ae (Cq u1 u2 0 w h1 hv1 (by omega))
 have ha:gW u1 u2 0+fZ u1 u2 0*4294967296=u1+u2:=by unfold gW fZ;omega
 have EX:gW u1 u2 0<4294967296:=JU _ _ _
 have EY:fZ u1 u2 0<=1:=by unfold fZ;omega
 go_enter Tryz.func136,Tryz.ntmps136
 go_wp2_with (fail);refine aJ.out.mono ?_;rintro e w1 ⟨rfl,rfl⟩;generalize gW u1 u2 0=r0 at*;generalize fZ u1 u2 0=o0 at*
 have HI:Hid (4294967295*u2+(r0+o0*4294967296)=u2*4294967296+u1):=by show _=_;omega
 go_wp2
 go_loopw [11,12,13] (λq r o wr=>∃(q' r' o':Nat),q=.int .u32 q'/\r=.int .u32 r'/\o=.int .u32 o'/\q'<=4294967295/\r'<4294967296/\o'<=1/\Hid (E<=q')/\Hid (q'*u2+(r'+o'*4294967296)=u2*4294967296+u1)/\Hid (Ext w wr)) (λq _ _ _=>(intOf q).toNat)
 case atStart=>exact⟨4294967295,r0,o0,rfl,rfl,rfl,aA _,EX,EY,HL3,HI,ai _⟩
 case round=>
  obtain⟨q',r',o',rfl,rfl,rfl,Sb,sG,AZ,oG,lU,eY⟩:=hrel
  by_cases ho:o'=0
  ·subst ho
   have pg:Hid (q'*u2+r'=u2*4294967296+u1):=by have:=lU.out;show _=_;omega
   have CM:=ae (Vo q' v2 wr (by omega) hv2);have Oe:=Tg q' v2;have hmh:=qpb q' v2 (by omega) hv2;go_wp2_with (fail);refine CM.out.mono ?_;rintro e w2 ⟨rfl,rfl⟩;have HB:=ae (iO.out q' r' Sb oG.out pg.out);have HN:=ae (BQ.out q' r' oG.out pg.out);generalize kD q' v2=mh at*;generalize iB q' v2=ml at*;clear CM lU iO BQ kR
   by_cases h3:mh<r'
   ·have hF:q'=E:=HB.out (.inl h3);subst hF
    have h3':(mh:Int)<(r':Int):=by omega
    go_wp2;go_ret;exact⟨rfl,eY.out⟩
   ·have h3':¬(mh:Int)<(r':Int):=by omega
    by_cases h4:mh=r'/\ml<=u0
    ·obtain⟨rfl,h5⟩:=h4;have hF:q'=E:=HB.out (.inr ⟨rfl,h5⟩);subst hF
     have h5':(ml:Int)<=(u0:Int):=by omega
     go_wp2;go_ret;exact⟨rfl,eY.out⟩
    ·obtain⟨qK,aZ,nH⟩:=HN.out (λh=>h.elim h3 h4);have aZ:=ae aZ;have nH:=ae nH;have CA:=ae (Cq r' u2 0 wr sG hv1 (by omega))
     have ha:gW r' u2 0+fZ r' u2 0*4294967296=r'+u2:=by unfold gW fZ;omega
     have EX:gW r' u2 0<4294967296:=JU _ _ _
     have EY:fZ r' u2 0<=1:=by unfold fZ;omega
     have P8:Hid ((q'-1)*u2+(gW r' u2 0+fZ r' u2 0*4294967296)=u2*4294967296+u1):=by show _=_;rw[ha];exact nH.out
     generalize gW r' u2 0=rn at*;generalize fZ r' u2 0=on at*
     have KT:((q':Int)-1)=((q'-1:Nat):Int):=by omega
     have hw:IntKind.u32.wrap ((q':Int)-1)=(q':Int)-1:=by rw[KT];exact wrap_u32 _ (by omega)
     by_cases h6:mh=r'
     ·subst h6
      have h5':¬(ml:Int)<=(u0:Int):=by have:¬ml<=u0:=λh=>h4 ⟨rfl,h⟩;omega
      clear h4 HB HN ha nH;go_wp2_with (fail);refine CA.out.mono ?_;rintro e w3 ⟨rfl,rfl⟩;go_wp2
      go_roundw
      case rel=>exact⟨q'-1,rn,on,by rw[<-KT],rfl,rfl,by omega,EX,EY,aZ,P8,eY⟩
      case measure=>simp[intOf];omega
     ·have h6':((mh:Int)==(r':Int))=false:=by simp;omega
      clear h4 HB HN ha nH;go_wp2_with (fail);refine CA.out.mono ?_;rintro e w3 ⟨rfl,rfl⟩;go_wp2
      go_roundw
      case rel=>exact⟨q'-1,rn,on,by rw[<-KT],rfl,rfl,by omega,EX,EY,aZ,P8,eY⟩
      case measure=>simp[intOf];omega
  ·have ho1:o'=1:=by omega
   have hF:=kR.out q' r' o' Sb oG.out lU.out (by omega);subst hF ho1;clear lU oG;go_wp2;go_ret;exact⟨rfl,eY.out⟩
theorem qvp(u2 u1 u0 v1 v2:Nat)(w:World)(h2:u2<v1)(h1:u1<4294967296)(h0:u0<4294967296)(hv:0<v1)(hv1:v1<4294967296)(hv2:v2<4294967296):
 Calls Tryz.prog 136 #[.int .u32 u2,.int .u32 u1,.int .u32 u0,.int .u32 v1,.int .u32 v2] w λe w'=>e=.returned (.int .u32 (gL u2 u1 u0 v1 v2:Nat))/\Ext w w':=by
 have kR:Hid (∀q r o:Nat,q<=4294967295->gL u2 u1 u0 v1 v2<=q->q*v1+(r+o*4294967296)=u2*4294967296+u1->0<o->q=gL u2 u1 u0 v1 v2):=qj7 hv hv2;have iO:Hid (∀q r:Nat,q<=4294967295->gL u2 u1 u0 v1 v2<=q->q*v1+r=u2*4294967296+u1->(kD q v2<r\/(kD q v2=r/\iB q v2<=u0))->q=gL u2 u1 u0 v1 v2):=qj3 hv h0;have BQ:Hid (∀q r:Nat,gL u2 u1 u0 v1 v2<=q->q*v1+r=u2*4294967296+u1->¬(kD q v2<r\/(kD q v2=r/\iB q v2<=u0))->0<q/\gL u2 u1 u0 v1 v2<=q-1/\(q-1)*v1+(r+v1)=u2*4294967296+u1):=qj4 hv h0;have Ha:=qj6 (u2:=u2) (u1:=u1) (v2:=v2) hv h0;have HL3:Hid (gL u2 u1 u0 v1 v2<=4294967295):=Nat.min_le_left _ _;generalize hE:gL u2 u1 u0 v1 v2=E at*;clear hE;obtain⟨q0,r0,qK,yZ,hq,hm,HI⟩:=qj5 u2 u1 v1 h2 h1;have aR:=qjf u2 u1 v1 w h2 h1 hv1;rw[<-qK, <-yZ]at aR;rw[<-qK]at Ha;have Em:=ae Ha;have aJ:=ae aR
 have Ku:¬((v1:Int)<=(u2:Int)):=by omega
 clear aR qK yZ Ha
 go_enter Tryz.func136,Tryz.ntmps136
 go_wp2_with (fail);refine aJ.out.mono ?_;rintro e w1 ⟨rfl,rfl⟩;go_wp2
 go_loopw [11,12,13] (λq r o wr=>∃(q' r' o':Nat),q=.int .u32 q'/\r=.int .u32 r'/\o=.int .u32 o'/\q'<=4294967295/\r'<4294967296/\o'<=1/\Hid (E<=q')/\Hid (q'*v1+(r'+o'*4294967296)=u2*4294967296+u1)/\Hid (Ext w wr)) (λq _ _ _=>(intOf q).toNat)
 case atStart=>exact⟨q0,r0,0,rfl,rfl,rfl,by omega,by omega,by omega,Em,HI,(ai w).drew⟩
 case round=>
  obtain⟨q',r',o',rfl,rfl,rfl,Sb,sG,AZ,oG,lU,eY⟩:=hrel
  by_cases ho:o'=0
  ·subst ho
   have pg:Hid (q'*v1+r'=u2*4294967296+u1):=by have:=lU.out;show _=_;omega
   have CM:=ae (Vo q' v2 wr (by omega) hv2);have Oe:=Tg q' v2;have hmh:=qpb q' v2 (by omega) hv2;go_wp2_with (fail);refine CM.out.mono ?_;rintro e w2 ⟨rfl,rfl⟩;have HB:=ae (iO.out q' r' Sb oG.out pg.out);have HN:=ae (BQ.out q' r' oG.out pg.out);generalize kD q' v2=mh at*;generalize iB q' v2=ml at*;clear CM lU iO BQ kR
   by_cases h3:mh<r'
   ·have hF:q'=E:=HB.out (.inl h3);subst hF
    have h3':(mh:Int)<(r':Int):=by omega
    go_wp2;go_ret;exact⟨rfl,eY.out⟩
   ·have h3':¬(mh:Int)<(r':Int):=by omega
    by_cases h4:mh=r'/\ml<=u0
    ·obtain⟨rfl,h5⟩:=h4;have hF:q'=E:=HB.out (.inr ⟨rfl,h5⟩);subst hF
     have h5':(ml:Int)<=(u0:Int):=by omega
     go_wp2;go_ret;exact⟨rfl,eY.out⟩
    ·obtain⟨qK,aZ,nH⟩:=HN.out (λh=>h.elim h3 h4);have aZ:=ae aZ;have nH:=ae nH;have CA:=ae (Cq r' v1 0 wr sG hv1 (by omega))
     have ha:gW r' v1 0+fZ r' v1 0*4294967296=r'+v1:=by unfold gW fZ;omega
     have EX:gW r' v1 0<4294967296:=JU _ _ _
     have EY:fZ r' v1 0<=1:=by unfold fZ;omega
     have P8:Hid ((q'-1)*v1+(gW r' v1 0+fZ r' v1 0*4294967296)=u2*4294967296+u1):=by show _=_;rw[ha];exact nH.out
     generalize gW r' v1 0=rn at*;generalize fZ r' v1 0=on at*
     have KT:((q':Int)-1)=((q'-1:Nat):Int):=by omega
     have hw:IntKind.u32.wrap ((q':Int)-1)=(q':Int)-1:=by rw[KT];exact wrap_u32 _ (by omega)
     by_cases h6:mh=r'
     ·subst h6
      have h5':¬(ml:Int)<=(u0:Int):=by have:¬ml<=u0:=λh=>h4 ⟨rfl,h⟩;omega
      clear h4 HB HN ha nH;go_wp2_with (fail);refine CA.out.mono ?_;rintro e w3 ⟨rfl,rfl⟩;go_wp2
      go_roundw
      case rel=>exact⟨q'-1,rn,on,by rw[<-KT],rfl,rfl,by omega,EX,EY,aZ,P8,eY⟩
      case measure=>simp[intOf];omega
     ·have h6':((mh:Int)==(r':Int))=false:=by simp;omega
      clear h4 HB HN ha nH;go_wp2_with (fail);refine CA.out.mono ?_;rintro e w3 ⟨rfl,rfl⟩;go_wp2
      go_roundw
      case rel=>exact⟨q'-1,rn,on,by rw[<-KT],rfl,rfl,by omega,EX,EY,aZ,P8,eY⟩
      case measure=>simp[intOf];omega
  ·have ho1:o'=1:=by omega
   have hF:=kR.out q' r' o' Sb oG.out lU.out (by omega);subst hF ho1;clear lU oG;go_wp2;go_ret;exact⟨rfl,eY.out⟩
theorem qvq(u2 u1 u0 v1 v2:Nat)(w:World)(h2:u2<=v1)(h1:u1<4294967296)(h0:u0<4294967296)(hv:0<v1)(hv1:v1<4294967296)(hv2:v2<4294967296):
 Calls Tryz.prog 136 #[.int .u32 u2,.int .u32 u1,.int .u32 u0,.int .u32 v1,.int .u32 v2] w λe w'=>e=.returned (.int .u32 (gL u2 u1 u0 v1 v2:Nat))/\Ext w w':=by
 by_cases h:u2=v1
 ·exact qvo u2 u1 u0 v1 v2 w h h1 h0 hv hv1 hv2
 ·exact qvp u2 u1 u0 v1 v2 w (by omega) h1 h0 hv hv1 hv2
theorem rG(d:Nat->Nat)(n:Nat):nv d (n+1)=nv d n+d n*4294967296^n:=rfl
theorem qDS{y d c:Nat}(hy:y<4294967296)(hd:d<4294967296)(hc:c<4294967296):y*d+c=gW (iB y d) c 0+(kD y d+fZ (iB y d) c 0)*4294967296/\kD y d+fZ (iB y d) c 0<4294967296:=by
 have h1:y*d<=4294967295*4294967295:=Nat.mul_le_mul (by omega) (by omega);unfold gW fZ iB kD;omega
theorem qq9{p l b:Nat}(hp:p<4294967296)(hl:l<4294967296)(hb:b<=1):zD p l b+l+b=p+borrow p l b*4294967296/\zD p l b<4294967296/\borrow p l b<=1:=by
 unfold zD borrow
 split<;>omega
structure Cm(w:World)(g T off j:Nat)(s:Nat->Nat)(wr:World)(s':Nat->Nat):Prop where
 dg:iU wr g T s'
 same:∀i,i<off\/off+j<=i->s' i=s i
 gr:w.grownBy wr (some g)
theorem Cm.set{w wr:World}{g T off j:Nat}{s s':Nat->Nat}(h:Cm w g T off j s wr s')(u:Nat)(hu:u<4294967296):Cm w g T off (j+1) s (wr.setCell ⟨g,off+j,none⟩ (.int .u32 u)) (cO s' (off+j) u):=
 ⟨h.dg.set (off+j) u hu,λi hi=>by unfold cO;rw[aj (by omega)];exact h.same i (by omega),qb9 h.gr _⟩
theorem XP(s':Nat->Nat)(off j u:Nat):nv (λi=>cO s' (off+j) u (off+i)) (j+1)=nv (λi=>s' (off+i)) j+u*4294967296^j:=by
 rw[rG]
 congr 1
 ·exact ou _ _ _ λi hi=>by unfold cO;rw[aj (by omega)]
 ·unfold cO;rw[av rfl]
theorem qps{M:Nat->Prop}{w wr:World}{g:Nat}{a:Option Addr}{n c:Nat}{d:Nat->Nat}(h:dL M w (.slice a n c) n d)(hne:∀p,a=some p->p.block≠g)(hg:w.grownBy wr (some g))(j:Nat)(hj:j<n):
 ∃b o,a=some ⟨b,o,none⟩/\b<wr.heap.size/\wr.cell? ⟨b,o+j,none⟩=some (.int .u32 (d j)):=by
 obtain⟨b,o,rfl,hb,hc⟩:=mZ h (by omega);have oP:b≠g:=hne _ rfl;exact⟨b,o,rfl,bB hb hg.size,by rw[World.cell?_of_block (w:=w) (hg.block b hb (by simpa using oP)),hc j hj]⟩
theorem qvu{M:Nat->Prop}(g off n cz T:Nat)(a2:Option Addr)(c2 d:Nat)(s V:Nat->Nat)(w:World)(hB:iU w g T s)(hT:off+n+1<=T)(h':dL M w (.slice a2 n c2) n V)(hne:∀p,a2=some p->p.block≠g)(hd:d<4294967296)(hcz:n+1<=cz):
 Calls Tryz.prog 137 #[.slice (some ⟨g,off,none⟩) (n+1) cz,.slice a2 n c2,.int .u32 d] w λq w'=>∃(b:Bool)(s':Nat->Nat),q=.returned (.bool b)/\Cm w g T off (n+1) s w' s'/\
  nv (λi=>s' (off+i)) (n+1)+d*nv V n=nv (λi=>s (off+i)) (n+1)+(if b then 1 else 0)*4294967296^(n+1):=by
 have dY:=h'.1;have HV:=ae h'.2.1;have HR:=ae h';have Eo:=ae hne;have HS:=ae hB.2;have zZ:Hid (Cm w g T off 0 s w s):=⟨hB,λ_ _=>rfl,VJ _ _⟩;clear h' hne hB
 go_enter Tryz.func137,Tryz.ntmps137
 go_wp2
 go_loopw [17,7,8] (λi c b wr=>∃(j c' b':Nat)(s':Nat->Nat),j<=n/\i=.int .i64 j/\c=.int .u32 c'/\b=.int .u32 b'/\c'<4294967296/\b'<=1/\Hid (Cm w g T off j s wr s')/\Hid (nv (λi=>s' (off+i)) j+d*nv V j=nv (λi=>s (off+i)) j+(b'+c')*4294967296^j)) (λi _ _ _=>n-(intOf i).toNat)
 case atStart=>exact⟨0,0,0,s,bu _,rfl,rfl,rfl,by omega,by omega,zZ,(by show _=_;simp[nv])⟩
 case round=>
  clear zZ;obtain⟨j,c,b,s',hj,rfl,rfl,rfl,hc,hb,dU,lU⟩:=hrel;have lu:=dU.out.gr;have RL:=dU.out.dg.1.lt
  by_cases hlt:j<n
  ·obtain⟨vb,vo,rfl,K7,Sq⟩:=qps HR.out Eo.out lu j hlt
   have g3:wr.cell? ⟨g,off+j,none⟩=some (.int .u32 (s (off+j))):=by rw[dU.out.dg.1.cell (by omega),dU.out.same _ (by omega)]
   have g4:=dU.out.dg.1.frozen (off+j);have wK:=HV.out j hlt;have Hu:=HS.out (off+j) (by omega);obtain⟨hm,nZ⟩:=qDS (c:=c) wK hd hc;have bZ:=JU (iB (V j) d) c 0
   have qGE:fZ (iB (V j) d) c 0<=1:=by have:=Tg (V j) d;unfold fZ;omega
   have CM:=ae (Vo (V j) d wr wK hd);have CA:=ae (Cq (iB (V j) d) c 0 wr (Tg _ _) hc (by omega));obtain⟨dI,hs2,mJ⟩:=qq9 (l:=gW (iB (V j) d) c 0) Hu bZ hb;have CS:=ae (qbi (s (off+j)) (gW (iB (V j) d) c 0) b wr Hu bZ (by omega))
   have pg:Hid (nv (λi=>cO s' (off+j) (zD (s (off+j)) (gW (iB (V j) d) c 0) b) (off+i)) (j+1)+d*nv V (j+1)=nv (λi=>s (off+i)) (j+1)+(borrow (s (off+j)) (gW (iB (V j) d) c 0) b+(kD (V j) d+fZ (iB (V j) d) c 0))*4294967296^(j+1)):=by
    show _=_;rw[XP,rG V,rG (λi=>s (off+i)),Nat.pow_succ];exact qrk lU.out hm dI
   have qo:=ae (dU.out.set _ hs2)
   have hmw:IntKind.u32.wrap (((kD (V j) d:Nat):Int)+((fZ (iB (V j) d) c 0:Nat):Int))=((kD (V j) d:Nat):Int)+((fZ (iB (V j) d) c 0:Nat):Int):=by
    have:=wrap_u32 (kD (V j) d+fZ (iB (V j) d) c 0) nZ;simpa using this
   clear hm dI;go_wp2_with (fail);refine CM.out.mono ?_;rintro e w2 ⟨rfl,rfl⟩;go_wp2_with (fail);refine CA.out.mono ?_;rintro e w3 ⟨rfl,rfl⟩;clear CM CA;go_wp2_with (fail);refine CS.out.mono ?_;rintro e w4 ⟨rfl,rfl⟩;generalize zD (s (off+j)) (gW (iB (V j) d) c 0) b=r at*;generalize borrow (s (off+j)) (gW (iB (V j) d) c 0) b=b2 at*;generalize fZ (iB (V j) d) c 0=ov at*;generalize kD (V j) d=mh at*;clear CS lu;go_wp2
   go_roundw
   case rel=>exact⟨j+1,mh+ov,b2,cO s' (off+j) r,by omega,by go_num,by simp,rfl,nZ,mJ,qo,pg⟩
   case measure=>simp[intOf];omega
  ·obtain rfl:j=n:=by omega
   have g3:wr.cell? ⟨g,off+j,none⟩=some (.int .u32 (s (off+j))):=by rw[dU.out.dg.1.cell (by omega),dU.out.same _ (by omega)]
   have g4:=dU.out.dg.1.frozen (off+j);have Hu:=HS.out (off+j) (by omega);obtain⟨dI,hs2,mJ⟩:=qq9 (l:=c) Hu hc hb;have CS:=ae (qbi (s (off+j)) c b wr Hu hc (by omega))
   have pg:Hid (nv (λi=>cO s' (off+j) (zD (s (off+j)) c b) (off+i)) (j+1)+d*nv V j=nv (λi=>s (off+i)) (j+1)+borrow (s (off+j)) c b*4294967296^(j+1)):=by
    show _=_;rw[XP,rG (λi=>s (off+i)),Nat.pow_succ];have:=qrk (v:=0) (low:=c) (hi:=0) lU.out (by omega) dI;simpa using this
   have qo:=ae (dU.out.set _ hs2)
   have qxH:(j:Int)<((j+1:Nat):Int):=by omega
   clear dI lu;go_wp2_with (fail);refine CS.out.mono ?_;rintro e w4 ⟨rfl,rfl⟩;generalize zD (s (off+j)) c b=r at*;generalize borrow (s (off+j)) c b=b2 at*;clear CS
   have HF:Hid (∃(bb:Bool)(s':Nat->Nat),Ending.returned (.bool (((b2:Nat):Int)!=0))=.returned (.bool bb)/\Cm w g T off (j+1) s (wr.setCell ⟨g,off+j,none⟩ (.int .u32 r)) s'/\nv (λi=>s' (off+i)) (j+1)+d*nv V j=nv (λi=>s (off+i)) (j+1)+(if bb then 1 else 0)*4294967296^(j+1)):=by
    refine⟨_,_,rfl,qo.out,?_⟩;have:=pg.out
    have h01:b2=0\/b2=1:=by omega
    rcases h01 with rfl|rfl
    ·simpa using this
    ·simpa using this
   clear pg qo;go_wp2;go_ret;exact HF.out
theorem qi5{Sp Sv Sr c p v r c' x:Nat}(hinv:Sr+c*x=Sp+Sv)(h:r+c'*4294967296=p+v+c):Sr+r*x+c'*(x*4294967296)=Sp+p*x+(Sv+v*x):=by
 have e:r*x+c'*(x*4294967296)=p*x+v*x+c*x:=by
  rw[Nat.mul_comm x 4294967296, <-Nat.mul_assoc, <-Nat.add_mul,h,Nat.add_mul,Nat.add_mul]
 omega
def qgg(w:World)(g off n T:Nat)(s V:Nat->Nat)(q:Ending)(w':World):Prop:=∃(k:Nat)(s':Nat->Nat),q=.returned (.tuple #[])/\Cm w g T off (n+1) s w' s'/\
 nv (λi=>s' (off+i)) (n+1)+k*4294967296^(n+1)=nv (λi=>s (off+i)) (n+1)+nv V n
theorem qvn{M:Nat->Prop}(g off n cz T:Nat)(a2:Option Addr)(c2:Nat)(s V:Nat->Nat)(w:World)(hB:iU w g T s)(hT:off+n+1<=T)(h':dL M w (.slice a2 n c2) n V)(hne:∀p,a2=some p->p.block≠g)(hcz:n+1<=cz):
 Calls Tryz.prog 138 #[.slice (some ⟨g,off,none⟩) (n+1) cz,.slice a2 n c2] w (qgg w g off n T s V):=by
 have dY:=h'.1;have HV:=ae h'.2.1;have HR:=ae h';have Eo:=ae hne;have HS:=ae hB.2;have zZ:Hid (Cm w g T off 0 s w s):=⟨hB,λ_ _=>rfl,VJ _ _⟩;clear h' hne hB
 go_enter Tryz.func138,Tryz.ntmps138
 go_wp2
 go_loopw [9,4] (λi c wr=>∃(j c':Nat)(s':Nat->Nat),j<=n/\i=.int .i64 j/\c=.int .u32 c'/\c'<=1/\Hid (Cm w g T off j s wr s')/\Hid (nv (λi=>s' (off+i)) j+c'*4294967296^j=nv (λi=>s (off+i)) j+nv V j)) (λi _ _=>n-(intOf i).toNat)
 case atStart=>exact⟨0,0,s,bu _,rfl,rfl,by omega,zZ,(by show _=_;simp[nv])⟩
 case round=>
  clear zZ;obtain⟨j,c,s',hj,rfl,rfl,hc,dU,lU⟩:=hrel;have lu:=dU.out.gr;have RL:=dU.out.dg.1.lt
  by_cases hlt:j<n
  ·obtain⟨vb,vo,rfl,K7,Sq⟩:=qps HR.out Eo.out lu j hlt
   have g3:wr.cell? ⟨g,off+j,none⟩=some (.int .u32 (s (off+j))):=by rw[dU.out.dg.1.cell (by omega),dU.out.same _ (by omega)]
   have g4:=dU.out.dg.1.frozen (off+j);have wK:=HV.out j hlt;have Hu:=HS.out (off+j) (by omega)
   have dI:gW (s (off+j)) (V j) c+fZ (s (off+j)) (V j) c*4294967296=s (off+j)+V j+c:=by unfold gW fZ;omega
   have hs2:=JU (s (off+j)) (V j) c
   have mJ:fZ (s (off+j)) (V j) c<=1:=by unfold fZ;omega
   have CA:=ae (Cq (s (off+j)) (V j) c wr Hu wK (by omega))
   have pg:Hid (nv (λi=>cO s' (off+j) (gW (s (off+j)) (V j) c) (off+i)) (j+1)+fZ (s (off+j)) (V j) c*4294967296^(j+1)=nv (λi=>s (off+i)) (j+1)+nv V (j+1)):=by
    show _=_;rw[XP,rG V,rG (λi=>s (off+i)),Nat.pow_succ];exact qi5 lU.out dI
   have qo:=ae (dU.out.set _ hs2);clear dI;go_wp2_with (fail);refine CA.out.mono ?_;rintro e w3 ⟨rfl,rfl⟩;generalize gW (s (off+j)) (V j) c=r at*;generalize fZ (s (off+j)) (V j) c=c3 at*;clear CA lu;go_wp2
   go_roundw
   case rel=>exact⟨j+1,c3,cO s' (off+j) r,by omega,by go_num,rfl,mJ,qo,pg⟩
   case measure=>simp[intOf];omega
  ·obtain rfl:j=n:=by omega
   have g3:wr.cell? ⟨g,off+j,none⟩=some (.int .u32 (s (off+j))):=by rw[dU.out.dg.1.cell (by omega),dU.out.same _ (by omega)]
   have g4:=dU.out.dg.1.frozen (off+j);have Hu:=HS.out (off+j) (by omega)
   have qxH:(j:Int)<((j+1:Nat):Int):=by omega
   obtain⟨r,hr⟩:∃r,r=(s (off+j)+c)%4294967296:=⟨_,rfl⟩
   have hs2:r<4294967296:=by omega
   have hw:IntKind.u32.wrap ((s (off+j):Int)+(c:Int))=r:=by
    rw[IntKind.wrap_u32];omega
   have iy:((s (off+j):Int)+(c:Int))%4294967296=r:=by omega
   have HF:Hid (qgg w g off j T s V (.returned (.tuple #[])) (wr.setCell ⟨g,off+j,none⟩ (.int .u32 r))):=by
    refine⟨(s (off+j)+c)/4294967296,_,rfl,dU.out.set r hs2,?_⟩;rw[XP,rG (λi=>s (off+i)),Nat.pow_succ];have:=qi5 (v:=0) (p:=s (off+j)) (r:=r) (c':=(s (off+j)+c)/4294967296) lU.out (by omega);simpa using this
   clear hr lu;go_wp2
   go_end0
   exact HF.out
theorem qvh{x:Nat}(h:x<18446744073709551616):aF x<=2:=(qC x 2).2 h
theorem qpr{M:Nat->Prop}(v:Value)(x:Nat)(w:World)(h:fC M w v x)(hx:x<18446744073709551616):
 Calls Tryz.prog 140 #[v] w λe w'=>e=.returned (.tuple #[.int .u64 x,.bool true])/\Ext w w':=by
 obtain⟨n,d,hr,zm⟩:=h;have hl:=qvh hx;have htl:=Yj d n hr.2.1;rw[zm]at htl;have lL:=sJ d n;rw[zm]at lL;have aJ:=ae (wL v n d w hr);have HD:=ae hr.2.1;have Ou:=II d n;clear hr zm
 go_enter Tryz.func140,Tryz.ntmps140
 go_wp2_with (fail);refine aJ.out.mono ?_;rintro e w' ⟨v',rfl,lM,rfl⟩;clear aJ;obtain⟨a,cap,rfl⟩:=kW lM;generalize tl d n=k at*
 have hk:k=0\/k=1\/k=2:=by omega
 clear hl htl;rcases hk with rfl|rfl|rfl
 ·obtain rfl:x=0:=lL.symm;clear lL lM Ou;go_wp2;exact aV (v:=.tuple #[.int .u64 0,.bool true]) (by simp[results,Tryz.results140,go_sem]) rfl ⟨rfl,ai _⟩
 ·obtain rfl:x=d 0:=by have:=lL;simp[nv]at this;exact this.symm
  obtain⟨b,o,rfl,hb,hc⟩:=mZ lM (by omega);have c0:=hc 0 (by omega);have d0:=HD.out 0 (by omega);rw[Nat.add_zero]at c0;clear lL lM hc Ou HD;go_wp2;exact aV (v:=.tuple #[.int .u64 (d 0),.bool true]) (by simp[results,Tryz.results140,go_sem]) rfl ⟨rfl,ai _⟩
 ·have Ib:x=d 1*4294967296+d 0:=by have:=lL;simp[nv]at this;omega
  obtain⟨b,o,rfl,hb,hc⟩:=mZ lM (by omega);have c0:=hc 0 (by omega);have c1:=hc 1 (by omega);have d0:=HD.out 0 (by omega);have d1:=HD.out 1 (by omega);have hor:=qpV (d 1) (d 0) d1 d0;rw[<-Ib]at hor;have UE:=ae hor;clear hor Ib;rw[Nat.add_zero]at c0;clear lL lM hc Ou HD hx;generalize d 0=p0 at*;generalize d 1=p1 at*;have HS:Hid ((λw':World=>w'.cell? ⟨b,o,none⟩=some (.int .u32 p0)/\w'.cell? ⟨b,o+1,none⟩=some (.int .u32 p1)) w.drew):=⟨c0,c1⟩;clear c0 c1;have e1:IntKind.u64.wrap (p1:Int)=p1:=wrap_u64 p1 (by omega);have e0:IntKind.u64.wrap (p0:Int)=p0:=wrap_u64 p0 (by omega);go_wp2;refine fB (λw':World=>w'.cell? ⟨b,o,none⟩=some (.int .u32 p0)/\w'.cell? ⟨b,o+1,none⟩=some (.int .u32 p1)) 11 HS.out λhHeld=>?_;refine bH [0,1,2,3,4,5,6,7,8,9,10] ?_;(iterate 11 refine bG ?_);refine bI ?_
  (refine aI 11 λK hK=>?_);go_simp;(refine fz hK ?_);clear hK K
  go_wp2;have e2:IntKind.u64.wrap ((p1:Int)*4294967296)=(p1:Int)*4294967296:=IntWalk.u64_in _ (by omega);rw[e2,UE.out];exact aV (v:=.tuple #[.int .u64 x,.bool true]) (by simp[results,Tryz.results140,go_sem]) rfl ⟨rfl,(ai _).drew⟩
theorem qva{N Q r D q r' dd:Nat}(h:N=dd*Q+r)(hq:q*dd+r'=r*4294967296+D):D+4294967296*N=dd*(q+4294967296*Q)+r':=by
 subst h;rw[Nat.mul_add,Nat.mul_add,Nat.mul_comm dd q,Nat.mul_left_comm dd 4294967296 Q];omega
def qgD(M:Nat->Prop)(w:World)(x dd:Nat)(e:Ending)(w':World):Prop:=∃u,e=.returned (.tuple #[u,.int .u32 (x%dd:Nat),.bool true])/\ic M w' u (x/dd)/\Ext w w'
theorem qAG{M:Nat->Prop}(v:Value)(x dd:Nat)(w:World)(hM:Mb M w)(h:fC M w v x)(h0:0<dd)(hd:dd<4294967296):
 Calls Tryz.prog 133 #[v,.int .u32 dd] w (qgD M w x dd):=by
 obtain⟨i0,hi,hz0,hz1,hz2⟩:=info_parts Tryz.Fu;obtain⟨n0,d,hr,zm⟩:=h;have lL:=sJ d n0;rw[zm]at lL;have aJ:=ae (wL v n0 d w hr);have iV:=ae hr.2.1;have Ou:=II d n0;have dY:=hr.1;have HM:=ae hM;clear hr zm hM
 have hd0:((dd:Int)==0)=false:=by simp;omega
 go_enter Tryz.func133,Tryz.ntmps133
 go_wp2_with (fail);refine aJ.out.mono ?_;rintro e w' ⟨v',rfl,lM,rfl⟩;clear aJ;obtain⟨a,cap,rfl⟩:=kW lM;generalize tl d n0=n at*;have HD:Hid (∀i,i<n->d i<4294967296):=λi hi=>iV.out i (by omega);have HR:=ae lM;have HX:=ae lL;clear lM iV lL
 go_wp2_with (first|(refine wpList_make_full _ rfl _ _ _ rfl w.heap.size 140 i0 (.int .u32 0) 1 Tryz.underlying28 hi hz0 hz1 .i64 .i64 _ _ n rfl rfl ?c4 ?c5 ?c2 ?c3 ?c6 ?_))
 case c2=>rw[hz2];omega
 case c3=>unfold maxLen;omega
 case c4=>simp
 case c5=>simp
 case c6=>simp
 intro w1 hown hgrow;have tu:Hid (iU w1 w.heap.size n (λ_=>0)):=⟨au.Bq hown,λ_ _=>(by decide:0<4294967296)⟩;have aP:=ae (mE hgrow);clear hown hgrow;go_wp2
 go_loopw [9,8] (λi r wr=>∃(k r':Nat)(s':Nat->Nat),k<=n/\i=.int .i64 ((k:Int)-1)/\r=.int .u32 r'/\r'<dd/\Hid (iU wr w.heap.size n s')/\Hid (nv (λt=>d (k+t)) (n-k)=dd*nv (λt=>s' (k+t)) (n-k)+r')/\Hid (Ext w wr)) (λi _ _=>(intOf i+1).toNat)
 case atStart=>exact⟨n,0,_,aA _,rfl,rfl,h0,tu,(by show _=_;rw[Nat.sub_self];simp[nv]),aP⟩
 case round=>
  clear tu aP;obtain⟨k,r,s',hk,rfl,rfl,hr,jK,lU,eY⟩:=hrel
  by_cases iq:k=0
  ·subst iq
   have heq:nv d n=dd*nv s' n+r:=by
    have:=lU.out;simpa using this
   rw[HX.out]at heq
   have hq:x/dd=nv s' n:=by
    rw[heq,Nat.mul_add_div h0,Nat.div_eq_of_lt hr,Nat.add_zero]
   have hm:x%dd=r:=by
    rw[heq,Nat.mul_add_mod,Nat.mod_eq_of_lt hr]
   have aR:=Li (M:=M) jK.out.1 (HM.out.new (aA _)) (by unfold maxLen;omega) jK.out.2 (by have:=yJ _ _ jK.out.2;omega);rw[<-hq]at aR;have aJ:=ae aR;have ZK:=ae hm;clear aR heq hq hm;go_wp2_with (fail);refine aJ.out.mono ?_;rintro e w2 ⟨u,rfl,hu,rfl⟩;have HF:Hid (qgD M w x dd (.returned (.tuple #[u,.int .u32 (r:Nat),.bool true])) wr):=⟨u,by rw[ZK.out],hu,eY.out⟩;clear hu aJ;go_wp2;exact aV (v:=.tuple #[u,.int .u32 (r:Nat),.bool true]) (by simp[results,Tryz.results133,go_sem]) rfl HF.out
  ·obtain⟨j,hj⟩:∃j,j=k-1:=⟨k-1,rfl⟩
   have KI:k=j+1:=by omega
   obtain⟨b,o,rfl,hb,hc⟩:=mZ HR.out (by omega);have c0:=hc j (by omega);rw[<-eY.out.cell hb]at c0
   have gD:b<wr.heap.size:=by have:=eY.out.size;omega
   have dj:=HD.out j (by omega);have CD:=ae (qjf r (d j) dd wr hr dj hd)
   have j1:(0:Int)<=(k:Int)-1:=by omega
   have j2:((k:Int)-1).toNat=j:=by omega
   have j3:(k:Int)-1<(n:Int):=by omega
   have g4:=jK.out.1.frozen j
   have AU:j<n:=by omega
   have g5:=jK.out.1.cell AU;have gP:=jK.out.1.lt;obtain⟨q,r2,qK,yZ,hq1,rE,HI⟩:=qj5 r (d j) dd hr dj
   have hqe:q*dd+r2=r*4294967296+d j:=by have:=HI.out;omega
   have pg:Hid (nv (λt=>d (j+t)) (n-j)=dd*nv (λt=>cO s' j q (j+t)) (n-j)+r2):=by
    show _=_;obtain⟨m,hm⟩:∃m,n-j=m+1:=⟨n-j-1,by omega⟩
    have he:nv (λt=>d (k+t)) m=dd*nv (λt=>s' (k+t)) m+r:=by
     have:=lU.out;rw[show n-k=m by omega]at this;exact this
    rw[hm,Tu,Tu,ou (λi=>cO s' j q (j+(i+1))) (λt=>s' (k+t)) m (λi _=>by unfold cO;rw[aj (by omega),show j+(i+1)=k+i by omega]),ou (λi=>d (j+(i+1))) (λt=>d (k+t)) m (λi _=>by rw[show j+(i+1)=k+i by omega]),he];show d (j+0)+_=dd*(cO s' j q (j+0)+_)+r2;rw[show cO s' j q (j+0)=q by unfold cO;rw[av (Nat.add_zero _)],Nat.add_zero];exact qva rfl hqe
   have Ai:=(jK.out.ext ((ai wr).drew)).set j q hq1;have kY:=ae Ai;have aZ:Hid (Ext w (wr.drew.setCell ⟨w.heap.size,j,none⟩ (.int .u32 q))):=(eY.out.trans (ai _).drew).set (aA _) _;have aR:=CD.out;rw[<-qK, <-yZ]at aR;have CD2:=ae aR;clear aR CD qK yZ HI hqe Ai hj hc;go_wp2_with (fail);refine CD2.out.mono ?_;rintro e w2 ⟨rfl,rfl⟩;go_wp2
   go_roundw
   case rel=>exact⟨j,r2,cO s' j q,by omega,by go_num,rfl,rE,kY,pg,aZ⟩
   case measure=>simp[intOf];omega
theorem qC9{y m s:Nat}(hs:s<=32)(hy:y<2^s)(hm:m<4294967296):y|||(m*2^s%4294967296)=y+m*2^s%4294967296:=by
 obtain⟨t,ht⟩:∃t,32=s+t:=⟨32-s,by omega⟩
 have e:m*2^s%4294967296=2^s*(m%2^t):=by
  rw[show(4294967296:Nat)=2^s*2^t by rw[<-Nat.pow_add, <-ht],Nat.mul_comm m,Nat.mul_mod_mul_left]
 rw[e,Nat.or_comm, <-Nat.two_pow_add_eq_or_of_lt hy,Nat.add_comm]
theorem qC8{y m s:Nat}(hs:s<=32)(hy:y<2^s):y+m*2^s%4294967296<4294967296:=by
 obtain⟨t,ht⟩:∃t,32=s+t:=⟨32-s,by omega⟩
 have e0:(4294967296:Nat)=2^s*2^t:=by rw[<-Nat.pow_add, <-ht]
 have e:m*2^s%4294967296=2^s*(m%2^t):=by
  rw[e0,Nat.mul_comm m,Nat.mul_mod_mul_left]
 have h1:m%2^t+1<=2^t:=Nat.mod_lt _ (Nat.pow_pos (by decide));have h2:2^s*(m%2^t+1)<=2^s*2^t:=Nat.mul_le_mul_left _ h1;rw[Nat.mul_add, <-e,Nat.mul_one, <-e0]at h2;omega
theorem qC7{m s:Nat}(hs:s<=32)(hm:m<4294967296):m*2^s/4294967296<2^s:=by
 refine Nat.div_lt_of_lt_mul ?_;exact Nat.mul_lt_mul_of_pos_right hm (Nat.pow_pos (by decide))
theorem qDa(S y W x:Nat):S+(y+W%4294967296)*x+W/4294967296*(x*4294967296)=S+y*x+W*x:=by
 have h:W*x=W%4294967296*x+W/4294967296*(x*4294967296):=by
  rw[Nat.mul_comm x 4294967296, <-Nat.mul_assoc, <-Nat.add_mul,Nat.mod_add_div' W 4294967296]
 rw[h,Nat.add_mul];omega
theorem qpp{M:Nat->Prop}(v:Value)(x s:Nat)(w:World)(hM:Mb M w)(h:fC M w v x)(hs:s<32)(hL:aF (x*2^s)<=1099511627776):
 Calls Tryz.prog 135 #[v,.int .i64 (s:Int)] w λe w'=>∃u,e=.returned u/\ic M w' u (x*2^s)/\Ext w w':=by
 obtain⟨i0,hi,hz0,hz1,hz2⟩:=info_parts Tryz.Fu;obtain⟨n0,d,hr,zm⟩:=h;have lL:=sJ d n0;rw[zm]at lL;have aJ:=ae (wL v n0 d w hr);have iV:=ae hr.2.1;have Ou:=II d n0;have dY:=hr.1;have HM:=ae hM;have HL:=ae hL;clear hr zm hM hL
 go_enter Tryz.func135,Tryz.ntmps135
 go_wp2_with (fail);refine aJ.out.mono ?_;rintro e w' ⟨v',rfl,lM,rfl⟩;clear aJ;obtain⟨a,cap,rfl⟩:=kW lM;generalize tl d n0=n at*;have HD:Hid (∀i,i<n->d i<4294967296):=λi hi=>iV.out i (by omega);have HR:=ae lM;have HX:=ae lL;clear lM iV lL
 by_cases iN:n=0
 ·subst iN
  have Aa:Hid (x=0):=by have:=HX.out;simp[nv]at this;exact this.symm
  go_wp2;go_ret;exact⟨_,rfl,by rw[Aa.out,Nat.zero_mul];exact ic.nil M w,ai _⟩
 ·have qed:(n==0)=false:=by simp[iN]
  have t1:max (s:Int) 0=s:=by omega
  have t3:(s:Int)/32=0:=by omega
  have t4:(s:Int)%32=s:=by omega
  have t2:min (s:Int) 16777216=s:=by omega
  go_wp2_with (first|(refine wpList_make_full _ rfl _ _ _ rfl w.heap.size 140 i0 (.int .u32 0) 1 Tryz.underlying28 hi hz0 hz1 .i64 .i64 _ _ (n+1) rfl rfl ?c4 ?c5 ?c2 ?c3 ?c6 ?_))
  case c2=>rw[hz2];omega
  case c3=>unfold maxLen;omega
  case c4=>go_num
  case c5=>go_num
  case c6=>simp
  intro w1 hown hgrow;have tu:Hid (iU w1 w.heap.size (n+1) (λ_=>0)):=⟨au.Bq hown,λ_ _=>(by decide:0<4294967296)⟩;have aP:=ae (mE hgrow);have hp0:0<2^s:=Nat.pow_pos (by decide);have Jh:=ae hp0;clear hown hgrow t1 t2 t3 t4 hp0;go_wp2
  go_loopw [36] (λi wr=>∃(k:Nat)(s':Nat->Nat),k<=n/\i=.int .i64 k/\Hid (iU wr w.heap.size (n+1) s')/\Hid (nv s' (k+1)=nv d k*2^s/\s' k<2^s/\∀i,k<i->s' i=0)/\Hid (Ext w wr)) (λi _=>n-(intOf i).toNat)
  case atStart=>exact⟨0,_,bu _,rfl,tu,(by show _/\_/\_;exact⟨by simp[nv],Jh.out,λ_ _=>rfl⟩),aP⟩
  case round=>
   clear tu aP;obtain⟨k,s',hk,rfl,jK,lU,eY⟩:=hrel
   by_cases hlt:k<n
   ·obtain⟨b,o,rfl,hb,hc⟩:=mZ HR.out (by omega);have c0:=hc k hlt;rw[<-eY.out.cell hb]at c0
    have gD:b<wr.heap.size:=by have:=eY.out.size;omega
    have dk:=HD.out k hlt;have g5:=jK.out.1.cell (i:=k) (by omega);have g4:=jK.out.1.frozen k;have g6:=jK.out.1.frozen (k+1);have g7:=jK.out.1.cell (i:=k+1) (by omega);have gP:=jK.out.1.lt;have xQ:IntKind.u64.signed=false:=rfl;obtain⟨hq1,hq2,wF⟩:=lU.out
    have hW:d k*2^s<18446744073709551616:=by
     have h1:2^s<=2^31:=Nat.pow_le_pow_right (by decide) (by omega);have h2:d k*2^s<=4294967295*2^31:=Nat.mul_le_mul (by omega) h1;omega
    have hhi:d k*2^s/4294967296<2^s:=qC7 (by omega) dk
    have qdW:d k*2^s/4294967296<4294967296:=by omega
    have KO:s' k+d k*2^s%4294967296<4294967296:=qC8 (by omega) hq2
    have E1:IntKind.u64.wrap ((d k:Int)*2^s)=((d k*2^s:Nat):Int):=by
     have h1:=wrap_u64 (d k*2^s) hW;rw[<-h1];simp
    have aZ:Hid (bits BinOp.or IntKind.u32 (s' k:Int) (IntKind.u64.wrap ((d k:Int)*2^s)%4294967296)=((s' k+d k*2^s%4294967296:Nat):Int)):=by
     show _=_;rw[E1,show((d k*2^s:Nat):Int)%4294967296=((d k*2^s%4294967296:Nat):Int)from(Int.natCast_emod _ _).symm,qjg (s' k) _ (by omega) (Nat.mod_lt _ (by decide)),qC9 (by omega) hq2 dk]
    have dK:Hid (IntKind.u64.wrap ((d k:Int)*2^s)/4294967296%4294967296=((d k*2^s/4294967296:Nat):Int)):=by
     show _=_;rw[E1,show((d k*2^s:Nat):Int)/4294967296=((d k*2^s/4294967296:Nat):Int)from(Int.natCast_ediv _ _).symm];exact Int.emod_eq_of_lt (jE _) (Int.ofNat_lt.2 qdW)
    have Ai:=(jK.out.set k _ KO).set (k+1) _ qdW;have kY:=ae Ai
    have pg:Hid (nv (cO (cO s' k (s' k+d k*2^s%4294967296)) (k+1) (d k*2^s/4294967296)) (k+1+1)=nv d (k+1)*2^s/\cO (cO s' k (s' k+d k*2^s%4294967296)) (k+1) (d k*2^s/4294967296) (k+1)<2^s/\∀i,k+1<i->cO (cO s' k (s' k+d k*2^s%4294967296)) (k+1) (d k*2^s/4294967296) i=0):=by
     refine⟨?_,?_,λi hi=>?_⟩
     ·rw[rG,rG,rG,Nat.add_mul, <-hq1,rG];rw[ou (cO (cO s' k (s' k+d k*2^s%4294967296)) (k+1) (d k*2^s/4294967296)) s' k (λi hi=>by unfold cO;rw[aj (by omega),aj (by omega)])];rw[show cO (cO s' k (s' k+d k*2^s%4294967296)) (k+1) (d k*2^s/4294967296) k=s' k+d k*2^s%4294967296 by unfold cO;rw[aj (by omega),av rfl],show cO (cO s' k (s' k+d k*2^s%4294967296)) (k+1) (d k*2^s/4294967296) (k+1)=d k*2^s/4294967296 by unfold cO;rw[av rfl]];rw[Nat.pow_succ,Nat.mul_right_comm (d k)];exact qDa _ _ _ _
     ·unfold cO;rw[av rfl];exact hhi
     ·unfold cO;rw[aj (by omega),aj (by omega)];exact wF i (by omega)
    have cZ:Hid (Ext w ((wr.setCell ⟨w.heap.size,k,none⟩ (.int .u32 ((s' k+d k*2^s%4294967296:Nat):Int))).setCell ⟨w.heap.size,k+1,none⟩ (.int .u32 ((d k*2^s/4294967296:Nat):Int)))):=(eY.out.set (p:=⟨w.heap.size,k,none⟩) (aA _) _).set (p:=⟨w.heap.size,k+1,none⟩) (aA _) _;clear hc hq1 hq2 wF hhi qdW KO E1 Ai hW;go_wp2;rw[aZ.out,dK.out];exact⟨⟨k+1,_,by omega,by go_num,kY,pg,cZ⟩,by simp[intOf];omega⟩
   ·obtain rfl:k=n:=by omega
    have hval:nv s' (k+1)=x*2^s:=by rw[lU.out.1,HX.out]
    have aR:=Li (M:=M) jK.out.1 (HM.out.new (aA _)) (by unfold maxLen;omega) jK.out.2 (by rw[hval];exact HL.out);rw[hval]at aR;have aJ:=ae aR;clear aR hval;go_wp2_with (fail);refine aJ.out.mono ?_;rintro e w2 ⟨u,rfl,hu,rfl⟩;clear aJ;go_wp2;go_ret;exact⟨u,rfl,hu,eY.out⟩
theorem qBu(x y:Nat)(hx:x<4294967296)(hy:y<4294967296):bits BinOp.or .u64 (y:Int) ((x:Int)*4294967296)=((y+x*4294967296:Nat):Int):=by
 have h:=qjh y (x*4294967296) (by omega) (by omega);rw[Nat.or_comm,qpW x y hy,Nat.add_comm]at h;rw[<-h];simp
theorem qq3(X s:Nat):(X:Int)/2^s%4294967296=((X/2^s%4294967296:Nat):Int):=by
 rw[Int.natCast_emod,Int.natCast_ediv,Int.natCast_pow];rfl
theorem qDb{L R s:Nat}(hs:s<=32):(L+4294967296*(4294967296*R))/2^s%4294967296=L/2^s%4294967296:=by
 obtain⟨t,ht⟩:∃t,32=s+t:=⟨32-s,by omega⟩
 have e0:(4294967296:Nat)=2^s*2^t:=by rw[<-Nat.pow_add, <-ht]
 have e:L+4294967296*(4294967296*R)=L+2^s*(4294967296*(2^t*R)):=by
  have:4294967296*(4294967296*R)=2^s*2^t*(4294967296*R):=by rw[<-e0]
  rw[this,Nat.mul_assoc,Nat.mul_left_comm (2^t)]
 rw[e,Nat.add_mul_div_left _ _ (Nat.pow_pos (by decide)),Nat.add_mul_mod_self_left]
theorem qq4{D:Nat->Nat}{n k s e:Nat}(hD:∀i,i<n->D i<4294967296)(hk:k<n)(hs:s<=32)(he:e=if k+1<n then D (k+1)else 0):nv D n/2^s/4294967296^k%4294967296=(D k+e*4294967296)/2^s%4294967296:=by
 have h1:nv D n/4294967296^k=nv (λi=>D (k+i)) (n-k):=by
  have h2:=xW D k (n-k);rw[show k+(n-k)=n by omega]at h2;rw[h2,Nat.add_mul_div_left _ _ (X0 k),Nat.div_eq_of_lt (qM D k λi hi=>hD i (by omega)),Nat.zero_add]
 rw[Nat.div_div_eq_div_mul,Nat.mul_comm, <-Nat.div_div_eq_div_mul,h1];obtain⟨m,hm⟩:∃m,n-k=m+1:=⟨n-k-1,by omega⟩;rw[hm,Tu]
 by_cases h3:k+1<n
 ·obtain⟨q,rfl⟩:∃q,m=q+1:=⟨m-1,by omega⟩;rw[Tu,he,av h3];have:=qDb (L:=D k+D (k+1)*4294967296) (R:=nv (λi=>D (k+(i+1+1))) q) hs;rw[<-this]
  congr 2
  show D (k+0)+4294967296*(D (k+(0+1))+_)=_;rw[Nat.mul_add,Nat.add_zero,Nat.zero_add];omega
 ·obtain rfl:m=0:=by omega
  rw[he,aj h3];simp[nv]
theorem qpN{s':Nat->Nat}{k Y z:Nat}(h:nv s' k=Y%4294967296^k)(hz:z=Y/4294967296^k%4294967296):nv (cO s' k z) (k+1)=Y%4294967296^(k+1):=by
 rw[rG,ou (cO s' k z) s' k (λi hi=>by unfold cO;rw[aj (by omega)]),h,show cO s' k z k=z by unfold cO;rw[av rfl],hz,Nat.pow_succ,Nat.mod_mul,Nat.mul_comm (4294967296^k)]
theorem qAK{M:Nat->Prop}(v:Value)(x s:Nat)(w:World)(hM:Mb M w)(h:fC M w v x)(hs:s<32):
 Calls Tryz.prog 139 #[v,.int .i64 (s:Int)] w λe w'=>∃u,e=.returned u/\ic M w' u (x/2^s)/\Ext w w':=by
 obtain⟨i0,hi,hz0,hz1,hz2⟩:=info_parts Tryz.Fu;obtain⟨n0,d,hr,zm⟩:=h;have lL:=sJ d n0;rw[zm]at lL;have aJ:=ae (wL v n0 d w hr);have iV:=ae hr.2.1;have Ou:=II d n0;have dY:=hr.1;have HM:=ae hM;clear hr zm hM
 go_enter Tryz.func139,Tryz.ntmps139
 go_wp2_with (fail);refine aJ.out.mono ?_;rintro e w' ⟨v',rfl,lM,rfl⟩;clear aJ;obtain⟨a,cap,rfl⟩:=kW lM;generalize tl d n0=n at*;have HD:Hid (∀i,i<n->d i<4294967296):=λi hi=>iV.out i (by omega);have HR:=ae lM;have HX:=ae lL;clear lM iV lL
 have t1:max (s:Int) 0=s:=by omega
 have t3:(s:Int)/32=0:=by omega
 have t4:(s:Int)%32=s:=by omega
 by_cases iN:n=0
 ·subst iN
  have Aa:Hid (x=0):=by have:=HX.out;simp[nv]at this;exact this.symm
  go_wp2;go_ret;exact⟨_,rfl,by rw[Aa.out,Nat.zero_div];exact ic.nil M w,ai _⟩
 ·have qed:¬(n:Int)<=0:=by omega
  obtain⟨b,o,rfl,hb,hc⟩:=mZ HR.out (by omega);have HC:=ae hc
  have xL:n<=cap/\cap<=9223372036854775807:=by
   rcases HR.out.2.2 with⟨h0,_⟩|⟨_,_,_,hv,hn,hc,_⟩
   ·omega
   ·simp only[Value.slice.injEq,true_and]at hv;obtain⟨_,rfl⟩:=hv;unfold maxLen at hc;omega
  obtain⟨qme,qmf⟩:=xL
  have qFO:¬cap=0:=by omega
  clear hc
  go_wp2_with (first|(refine wpList_make_full _ rfl _ _ _ rfl w.heap.size 140 i0 (.int .u32 0) 1 Tryz.underlying28 hi hz0 hz1 .i64 .i64 _ _ n rfl rfl ?c4 ?c5 ?c2 ?c3 ?c6 ?_))
  case c2=>rw[hz2];omega
  case c3=>unfold maxLen;omega
  case c4=>go_num
  case c5=>go_num
  case c6=>simp
  intro w1 hown hgrow;have tu:Hid (iU w1 w.heap.size n (λ_=>0)):=⟨au.Bq hown,λ_ _=>(by decide:0<4294967296)⟩;have aP:=ae (mE hgrow);clear hown hgrow t1 t3 t4;go_wp2
  go_loopw [33] (λi wr=>∃(k:Nat)(s':Nat->Nat),k<=n/\i=.int .i64 k/\Hid (iU wr w.heap.size n s')/\Hid (nv s' k=x/2^s%4294967296^k)/\Hid (Ext w wr)) (λi _=>n-(intOf i).toNat)
  case atStart=>exact⟨0,_,bu _,rfl,tu,(by show _=_;simp[nv,Nat.mod_one]),aP⟩
  case round=>
   clear tu aP;obtain⟨k,s',hk,rfl,jK,lU,eY⟩:=hrel
   by_cases hlt:k<n
   ·have c0:=HC.out k hlt;rw[<-eY.out.cell hb]at c0
    have gD:b<wr.heap.size:=by have:=eY.out.size;omega
    have dk:=HD.out k hlt;have g5:=jK.out.1.cell (i:=k) (by omega);have g4:=jK.out.1.frozen k;have gP:=jK.out.1.lt;have xQ:IntKind.u64.signed=false:=rfl
    by_cases kU:k+1<n
    ·have c1:=HC.out (k+1) kU;rw[<-eY.out.cell hb]at c1;have dk1:=HD.out (k+1) kU
     have qyi:(k:Int)+1<(n:Int):=by omega
     have HZ:Hid (bits BinOp.or IntKind.u64 (d k:Int) ((d (k+1):Int)*4294967296)/2^s%4294967296=(((d k+d (k+1)*4294967296)/2^s%4294967296:Nat):Int)):=by show _=_;rw[qBu _ _ dk1 dk];exact qq3 _ _
     have hzl:(d k+d (k+1)*4294967296)/2^s%4294967296<4294967296:=Nat.mod_lt _ (by decide);have kY:=ae (jK.out.set k _ hzl);have pg:Hid (nv (cO s' k ((d k+d (k+1)*4294967296)/2^s%4294967296)) (k+1)=x/2^s%4294967296^(k+1)):=qpN lU.out (by rw[<-HX.out];exact(qq4 HD.out hlt (by omega) (by rw[av kU])).symm);have cZ:Hid (Ext w (wr.setCell ⟨w.heap.size,k,none⟩ (.int .u32 (((d k+d (k+1)*4294967296)/2^s%4294967296:Nat):Int)))):=eY.out.set (p:=⟨w.heap.size,k,none⟩) (aA _) _;go_wp2;rw[HZ.out];exact⟨⟨k+1,_,by omega,by go_num,kY,pg,cZ⟩,by simp[intOf];omega⟩
    ·have qyi:¬(k:Int)+1<(n:Int):=by omega
     have HZ:Hid ((d k:Int)/2^s%4294967296=(((d k+0*4294967296)/2^s%4294967296:Nat):Int)):=by show _=_;rw[Nat.zero_mul,Nat.add_zero];exact qq3 _ _
     have hzl:(d k+0*4294967296)/2^s%4294967296<4294967296:=Nat.mod_lt _ (by decide);have kY:=ae (jK.out.set k _ hzl);have pg:Hid (nv (cO s' k ((d k+0*4294967296)/2^s%4294967296)) (k+1)=x/2^s%4294967296^(k+1)):=qpN lU.out (by rw[<-HX.out];exact(qq4 HD.out hlt (by omega) (by rw[aj kU])).symm);have cZ:Hid (Ext w (wr.setCell ⟨w.heap.size,k,none⟩ (.int .u32 (((d k+0*4294967296)/2^s%4294967296:Nat):Int)))):=eY.out.set (p:=⟨w.heap.size,k,none⟩) (aA _) _;go_wp2;rw[HZ.out];exact⟨⟨k+1,_,by omega,by go_num,kY,pg,cZ⟩,by simp[intOf];omega⟩
   ·obtain rfl:k=n:=by omega
    have hval:nv s' k=x/2^s:=by
     rw[lU.out];refine Nat.mod_eq_of_lt (Nat.lt_of_le_of_lt (Nat.div_le_self _ _) ?_);rw[<-HX.out];exact qM d k HD.out
    have aR:=Li (M:=M) jK.out.1 (HM.out.new (aA _)) (by unfold maxLen;omega) jK.out.2 (by have:=yJ _ _ jK.out.2;omega);rw[hval]at aR;have aJ:=ae aR;clear aR hval;go_wp2_with (fail);refine aJ.out.mono ?_;rintro e w2 ⟨u,rfl,hu,rfl⟩;clear aJ;go_wp2;go_ret;exact⟨u,rfl,hu,eY.out⟩
end Go.Proofs.YtaafefeafonhdaaGreat
