/- Na -/
import Derived.Test.YtmcfpnmoklnhoaaGreatMm
import Derived.Shelf.Small.Bits
set_option linter.unusedVariables false
set_option maxRecDepth 100000
set_option maxHeartbeats 400000000
set_option linter.unusedSimpArgs false
namespace Go.Proofs.YtmcfpnmoklnhoaaGreat
def fP(u2 u1 u0 v1 v2:Nat):Nat:=min 4294967295 (((u2*4294967296+u1)*4294967296+u0)/(v1*4294967296+v2))
theorem qhT{u2 u1 u0 v1 v2 q:Nat}(hv:0<v1)(hq:q<=4294967295)(iZ:fP u2 u1 u0 v1 v2<=q)(h:q*(v1*4294967296+v2)<=(u2*4294967296+u1)*4294967296+u0):q=fP u2 u1 u0 v1 v2:=by
 have h1:q<=((u2*4294967296+u1)*4294967296+u0)/(v1*4294967296+v2):=(Nat.le_div_iff_mul_le (by omega)).2 h;unfold fP at iZ⊢;exact Nat.le_antisymm (Nat.le_min.2 ⟨hq,h1⟩) iZ
theorem qsC{u2 u1 u0 v1 v2 q:Nat}(hv:0<v1)(iZ:fP u2 u1 u0 v1 v2<=q)(h:(u2*4294967296+u1)*4294967296+u0<q*(v1*4294967296+v2)):0<q/\fP u2 u1 u0 v1 v2<=q-1:=by
 have h1:((u2*4294967296+u1)*4294967296+u0)/(v1*4294967296+v2)<q:=(Nat.div_lt_iff_lt_mul (by omega)).2 h;unfold fP at iZ⊢;refine⟨Nat.lt_of_le_of_lt (Nat.zero_le _) h1,?_⟩;exact Nat.le_trans (Nat.min_le_right _ _) (Nat.le_sub_one_of_lt h1)
theorem qhR{u2 u1 u0 v1 v2:Nat}(hv:0<v1)(hu:u0<4294967296):fP u2 u1 u0 v1 v2<=(u2*4294967296+u1)/v1:=by
 rw[Nat.le_div_iff_mul_le hv]
 have h1:fP u2 u1 u0 v1 v2*(v1*4294967296+v2)<=(u2*4294967296+u1)*4294967296+u0:=by
  refine Nat.le_trans (Nat.mul_le_mul_right _ (Nat.min_le_right _ _)) ?_;exact Nat.div_mul_le_self _ _
 generalize fP u2 u1 u0 v1 v2=q at*;rw[Nat.mul_add, <-Nat.mul_assoc]at h1;omega
theorem qsD{P V u2 u1 u0 v1 v2 k lp lv:Nat}(hP:P=((u2*4294967296+u1)*4294967296+u0)*4294967296^k+lp)(hV:V=(v1*4294967296+v2)*4294967296^k+lv)(hlp:lp<4294967296^k)(gI:lv<4294967296^k)(hv:0<v1)(hlt:P<V*4294967296):
 P/V<=fP u2 u1 u0 v1 v2/\fP u2 u1 u0 v1 v2<=P/V+1:=by
 have hpk:=VT k
 have F7:0<V:=by
  rw[hV];have:0<(v1*4294967296+v2)*4294967296^k:=Nat.mul_pos (by omega) hpk;omega
 have hq1:P/V<=4294967295:=by
  have:P/V<4294967296:=(Nat.div_lt_iff_lt_mul F7).2 (by rw[Nat.mul_comm];exact hlt);omega
 have hqV:P/V*V<=P:=Nat.div_mul_le_self _ _;obtain⟨U,hU⟩:∃U,(u2*4294967296+u1)*4294967296+u0=U:=⟨_,rfl⟩;obtain⟨W,hW⟩:∃W,v1*4294967296+v2=W:=⟨_,rfl⟩;rw[hU]at hP;rw[hW]at hV
 have xX:4294967296<=W:=by omega
 constructor
 ·have h1:P/V*W<=U:=by
   have h2:P/V*W*4294967296^k<(U+1)*4294967296^k:=by
    have h3:P/V*(W*4294967296^k)<=P/V*V:=Nat.mul_le_mul_left _ (by omega);rw[<-Nat.mul_assoc]at h3;rw[Nat.add_mul,Nat.one_mul];omega
   have:=Nat.lt_of_mul_lt_mul_right h2;omega
  have h4:P/V<=U/W:=(Nat.le_div_iff_mul_le (by omega)).2 h1;unfold fP;rw[hU,hW];exact Nat.le_min.2 ⟨hq1,h4⟩
 ·have af:fP u2 u1 u0 v1 v2<=4294967295:=Nat.min_le_left _ _
  have aA:fP u2 u1 u0 v1 v2*W<=U:=by
   have:fP u2 u1 u0 v1 v2<=U/W:=by unfold fP;rw[hU,hW];exact Nat.min_le_right _ _
   exact Nat.le_trans (Nat.mul_le_mul_right _ this) (Nat.div_mul_le_self _ _)
  refine Classical.byContradiction λhc=>?_;generalize fP u2 u1 u0 v1 v2=q at*
  have LF:P<(P/V+1)*V:=by
   have:=Nat.lt_div_mul_add (a:=P) F7;rw[Nat.add_mul,Nat.one_mul];omega
  have h5:(P/V+1)*V<=(q-1)*V:=Nat.mul_le_mul_right _ (by omega)
  have h6:(q-1)*V=q*V-V:=by rw[Nat.sub_mul,Nat.one_mul]
  have h7:q*V=q*W*4294967296^k+q*lv:=by rw[hV,Nat.mul_add,Nat.mul_assoc]
  have h8:q*W*4294967296^k<=U*4294967296^k:=Nat.mul_le_mul_right _ aA;have h9:q*lv<=4294967295*4294967296^k:=Nat.mul_le_mul af (by omega);have OZ:4294967296*4294967296^k<=W*4294967296^k:=Nat.mul_le_mul_right _ xX;omega
theorem qr4{P V q:Nat}(hV:0<V)(h1:P/V<=q)(h2:q<=P/V+1):(q*V<=P->q=P/V)/\(P<q*V->q=P/V+1):=by
 have h3:P/V*V<=P:=Nat.div_mul_le_self _ _;refine⟨λh=>?_,λh=>?_⟩
 ·have:q<=P/V:=(Nat.le_div_iff_mul_le hV).2 h;omega
 ·by_cases hq:q=P/V
  ·rw[hq]at h;omega
  ·omega
theorem qop{Sp Sv Sr c b p v d low hi r b' x:Nat}(hinv:Sr+d*Sv=Sp+(b+c)*x)(hm:v*d+c=low+hi*4294967296)(hs:r+low+b=p+b'*4294967296):
 Sr+r*x+d*(Sv+v*x)=Sp+p*x+(b'+hi)*(x*4294967296):=by
 have e1:r*x+low*x+b*x=p*x+b'*(x*4294967296):=by
  rw[<-Nat.add_mul, <-Nat.add_mul,hs,Nat.add_mul,Nat.mul_assoc,Nat.mul_comm 4294967296 x]
 have e2:v*d*x+c*x=low*x+hi*(x*4294967296):=by
  rw[<-Nat.add_mul,hm,Nat.add_mul,Nat.mul_assoc,Nat.mul_comm 4294967296 x]
 have e3:d*(Sv+v*x)=d*Sv+v*d*x:=by rw[Nat.mul_add, <-Nat.mul_assoc,Nat.mul_comm d v]
 rw[Nat.add_mul]at hinv⊢;omega
end Go.Proofs.YtmcfpnmoklnhoaaGreat
namespace Go.Proofs.YtmcfpnmoklnhoaaGreat
open Go.RowKit
theorem wrap_u64(n:Nat)(h:n<18446744073709551616):IntKind.u64.wrap (n:Int)=n:=by
 exact IntWalk.u64_in _ (by omega)
theorem qgX(n:Nat)(h:n<18446744073709551616):(BitVec.ofInt IntKind.u64.bits (n:Int)).toNat=n:=by
 simp[IntKind.bits];omega
theorem qgT(a b:Nat)(ha:a<18446744073709551616)(hb:b<18446744073709551616):bits BinOp.or .u64 a b=((a|||b:Nat):Int):=by
 unfold bits;have h1:=qgX a ha;have h2:=qgX b hb;simp only[BitVec.toNat_or,h1,h2];rw[wrap_u64];exact Nat.or_lt_two_pow (n:=64) ha hb
theorem qm9(x y:Nat)(hy:y<4294967296):x*4294967296|||y=x*4294967296+y:=by
 have:=Nat.two_pow_add_eq_or_of_lt (i:=32) (b:=y) hy x;rw[Nat.mul_comm x];exact this.symm
theorem qm8(x y:Nat)(hx:x<4294967296)(hy:y<4294967296):bits BinOp.or .u64 ((x:Int)*4294967296) (y:Int)=((x*4294967296+y:Nat):Int):=by
 have:=qgT (x*4294967296) y (by omega) (by omega);rw[qm9 x y hy]at this;rw[<-this];simp
theorem qgQ(hi lo y:Nat)(w:World)(h1:hi<y)(hl:lo<4294967296)(hy:y<4294967296):
 Calls Tryz.prog 205 #[.int .u32 hi,.int .u32 lo,.int .u32 y] w λe w'=>
  e=.returned (.tuple #[.int .u32 (((hi*4294967296+lo)/y:Nat):Int),.int .u32 (((hi*4294967296+lo)%y:Nat):Int)])/\w'=w.drew:=by
 have Sw:=Lib.hid (qm8 hi lo (by omega) hl);have yl:IntKind.u64.signed=false:=rfl
 have rU:((y:Int)==0)=false:=by simp;omega
 have iy:¬((y:Int)<=(hi:Int)):=by omega
 go_enter Tryz.func205,Tryz.ntmps205
 go_wp2;rw[Sw.out];obtain⟨Z,hZ⟩:∃Z,Z=hi*4294967296+lo:=⟨_,rfl⟩
 have hq:Z/y<4294967296:=by
  rw[Nat.div_lt_iff_lt_mul (by omega),hZ,Nat.mul_comm];have:(hi+1)*4294967296<=y*4294967296:=Nat.mul_le_mul_right _ (by omega);omega
 have hr:Z%y<y:=Nat.mod_lt _ (by omega)
 have qA8:(Z:Int)<18446744073709551616:=by omega
 rw[<-hZ];have HZ:=Lib.hid hZ;clear Sw hZ;have e1:(Z:Int)/(y:Int)=((Z/y:Nat):Int):=(Int.natCast_ediv Z y).symm;have e2:(Z:Int)%(y:Int)=((Z%y:Nat):Int):=(Int.natCast_emod Z y).symm;have e3:IntKind.u64.wrap (y:Int)=y:=wrap_u64 y (by omega);obtain⟨q,rT⟩:∃q,q=Z/y:=⟨_,rfl⟩;obtain⟨r,EC⟩:∃r,r=Z%y:=⟨_,rfl⟩;rw[<-rT]at hq e1;rw[<-EC]at hr e2;have e4:IntKind.u64.wrap (q:Int)=q:=wrap_u64 q (by omega);have e5:IntKind.u32.wrap (q:Int)=q:=wrap_u32 q hq;have e6:IntKind.u64.wrap (r:Int)=r:=wrap_u64 r (by omega);have e7:IntKind.u32.wrap (r:Int)=r:=wrap_u32 r (by omega);have e8:IntKind.u64.wrap (Z:Int)=Z:=wrap_u64 Z (by omega)
 have qx:¬(y:Int)=0:=by omega
 have e9:(Z:Int).tmod (y:Int)=r:=by rw[Int.tmod_eq_emod_of_nonneg (by omega)];exact e2
 have SC:=Lib.hid rT;have Kl:=Lib.hid EC;clear rT EC;refine fM DL 11 (by kernel_rfl) trivial (λhHeld=>?_);(refine dF [0,1,2,3,4,5,6,7,8,9,10] ?_;(iterate 11 (refine dD (v:=?_) ?_ ?_;rotate_left 1;(intro wS hSw;obtain Pp:=hSw;go_simp;try with_reducible rfl);(try simp only[Act.put,aD,aF,aG])));refine dG ?_);((refine aK 11 ?_;intro K hK);go_simp;(refine hK.out _ _ (λh=>absurd rfl h) ?_);clear hK K;refine ek ?_);go_wp2;exact bodyPost_ret (v:=.tuple #[.int .u32 q,.int .u32 r]) (by simp[results,Tryz.results205,go_sem]) rfl ⟨by rw[<-HZ.out, <-SC.out, <-Kl.out],rfl⟩
def Tryz.qww:Go.Shelf.Ren:=⟨λ |133=>189|128=>179|n=>n,λ |46=>156|3=>3|51=>155|53=>108|4=>4|5=>5|9=>9|n=>n,λ |n=>n⟩
theorem Tryz.qwv:Go.Proofs.Lays.n133 Tryz.prog Tryz.qww:={
 mixed:=by kernel_rfl
 f128:=Tryz.func179.trans (congrArg some (by kernel_rfl))
 f133:=Tryz.func189.trans (congrArg some (by kernel_rfl))
 t3:=Tryz.underlying3
 a3:=Tryz.isAgg3
 z3:=Tryz.sizeOf3
 v3:=Tryz.zeroValue3
 t4:=Tryz.underlying4
 a4:=Tryz.isAgg4
 z4:=Tryz.sizeOf4
 v4:=Tryz.zeroValue4
 t5:=Tryz.underlying5
 a5:=Tryz.isAgg5
 z5:=Tryz.sizeOf5
 v5:=Tryz.zeroValue5
 t9:=Tryz.underlying9
 a9:=Tryz.isAgg9
 z9:=Tryz.sizeOf9
 v9:=Tryz.zeroValue9
 t46:=Tryz.underlying156
 a46:=Tryz.isAgg156
 z46:=Tryz.sizeOf156
 v46:=Tryz.zeroValue156
 t51:=Tryz.underlying155
 a51:=Tryz.isAgg155
 z51:=Tryz.sizeOf155
 v51:=Tryz.zeroValue155}
theorem qgO:∀(k x:Nat),x<2^64->2^k<=x->x<2^(k+1)->Lib.bitLen x=k+1
 |0,x,_,h1,h2=>by
  have:x=1:=by omega
  subst this;decide
 |k+1,x,h,h1,h2=>by
  have e:2^(k+1)=2*2^k:=by rw[Nat.pow_succ];omega
  have e2:2^(k+1+1)=2*2^(k+1):=by rw[Nat.pow_succ];omega
  have hp:0<2^k:=Nat.pow_pos (by decide);rw[Lib.bitLen_half x (by omega) h,qgO k (x/2) (by omega) (by omega) (by omega)];omega
theorem qwx(x:Nat)(h0:x≠0)(h:x<4294967296):∃s:Nat,32-(Lib.bitLen x:Int)=s/\s<32/\2147483648<=x*2^s/\x*2^s<4294967296:=by
 obtain⟨k,iq,kz⟩:∃k,2^k<=x/\x<2^(k+1):=⟨x.log2,Nat.log2_self_le h0,Nat.lt_log2_self⟩
 have hk:k<32:=by
  refine Classical.byContradiction λhc=>?_;have:2^32<=2^k:=Nat.pow_le_pow_right (by decide) (by omega);omega
 have hb:=qgO k x (by omega) iq kz;refine⟨31-k,by rw[hb];omega,by omega,?_,?_⟩
 ·have:2^k*2^(31-k)<=x*2^(31-k):=Nat.mul_le_mul_right _ iq;rw[<-Nat.pow_add,show k+(31-k)=31 by omega]at this;exact this
 ·have:x*2^(31-k)<2^(k+1)*2^(31-k):=Nat.mul_lt_mul_of_pos_right kz (Nat.pow_pos (by decide));rw[<-Nat.pow_add,show k+1+(31-k)=32 by omega]at this;exact this
theorem qqZ(x:Nat)(w:World)(h0:x≠0)(h:x<4294967296):
 Calls Tryz.prog 189 #[.int .u32 x] w λe w'=>∃s:Nat,e=.returned (.int .i64 s)/\(s<32/\2147483648<=x*2^s/\x*2^s<4294967296)/\w'=w:=by
 obtain⟨s,h1,h2⟩:=qwx x h0 h;refine(Go.Proofs.Any.bits_LeadingZeros32 Tryz.qwv (x:Int) w (by omega) (by omega)).mono ?_;rintro e w' ⟨rfl,rfl⟩;exact⟨s,by rw[<-h1];rfl,h2,rfl⟩
theorem qhU{X r u0:Nat}(hu:u0<4294967296):(X<=r*4294967296+u0)↔(X/4294967296<r\/(X/4294967296=r/\X%4294967296<=u0)):=by omega
theorem qat{q v1 v2 r u2 u1 u0:Nat}(h:q*v1+r=u2*4294967296+u1):(q*(v1*4294967296+v2)<=(u2*4294967296+u1)*4294967296+u0)↔(q*v2<=r*4294967296+u0):=by
 rw[<-h,Nat.mul_add, <-Nat.mul_assoc,Nat.add_mul];omega
theorem qhS{u2 u1 u0 v1 v2:Nat}(hv:0<v1)(hv2:v2<4294967296)(q r o:Nat)(hq:q<=4294967295)(iZ:fP u2 u1 u0 v1 v2<=q)(he:q*v1+(r+o*4294967296)=u2*4294967296+u1)(ho:0<o):q=fP u2 u1 u0 v1 v2:=by
 refine qhT hv hq iZ ((qat he).2 ?_);have h3:q*v2<=4294967295*4294967295:=Nat.mul_le_mul hq (by omega);omega
theorem qhO{u2 u1 u0 v1 v2:Nat}(hv:0<v1)(h0:u0<4294967296)(q r:Nat)(hq:q<=4294967295)(iZ:fP u2 u1 u0 v1 v2<=q)(he:q*v1+r=u2*4294967296+u1)(hc:jT q v2<r\/(jT q v2=r/\gN q v2<=u0)):q=fP u2 u1 u0 v1 v2:=
 qhT hv hq iZ ((qat he).2 ((qhU h0).2 hc))
theorem qhP{u2 u1 u0 v1 v2:Nat}(hv:0<v1)(h0:u0<4294967296)(q r:Nat)(iZ:fP u2 u1 u0 v1 v2<=q)(he:q*v1+r=u2*4294967296+u1)(hc:¬(jT q v2<r\/(jT q v2=r/\gN q v2<=u0))):0<q/\fP u2 u1 u0 v1 v2<=q-1/\(q-1)*v1+(r+v1)=u2*4294967296+u1:=by
 have h3:=qsC (u0:=u0) (v2:=v2) hv iZ (Nat.lt_of_not_le λh=>hc ((qhU h0).1 ((qat he).1 h)));refine⟨h3.1,h3.2,?_⟩;obtain⟨p,rfl⟩:∃p,q=p+1:=⟨q-1,by omega⟩;rw[Nat.add_sub_cancel];rw[Nat.add_mul,Nat.one_mul]at he;omega
theorem qhQ(u2 u1 v1:Nat)(h2:u2<v1)(h1:u1<4294967296):∃q0 r0,q0=(u2*4294967296+u1)/v1/\r0=(u2*4294967296+u1)%v1/\q0<4294967296/\r0<v1/\Hid (q0*v1+(r0+0*4294967296)=u2*4294967296+u1):=by
 refine⟨_,_,rfl,rfl,?_,Nat.mod_lt _ (by omega),?_⟩
 ·refine Nat.div_lt_of_lt_mul ?_;have:(u2+1)*4294967296<=v1*4294967296:=Nat.mul_le_mul_right _ (by omega);omega
 ·show _=_;rw[Nat.zero_mul,Nat.add_zero];exact Nat.div_add_mod' _ _
theorem qsq(u2 u1 u0 v1 v2:Nat)(w:World)(h2:u2=v1)(h1:u1<4294967296)(h0:u0<4294967296)(hv:0<v1)(hv1:v1<4294967296)(hv2:v2<4294967296):
 Calls Tryz.prog 191 #[.int .u32 u2,.int .u32 u1,.int .u32 u0,.int .u32 v1,.int .u32 v2] w λe w'=>e=.returned (.int .u32 (fP u2 u1 u0 v1 v2:Nat))/\Ext w w':=by
 have o5:Hid (∀q r o:Nat,q<=4294967295->fP u2 u1 u0 v1 v2<=q->q*v1+(r+o*4294967296)=u2*4294967296+u1->0<o->q=fP u2 u1 u0 v1 v2):=qhS hv hv2;have jD:Hid (∀q r:Nat,q<=4294967295->fP u2 u1 u0 v1 v2<=q->q*v1+r=u2*4294967296+u1->(jT q v2<r\/(jT q v2=r/\gN q v2<=u0))->q=fP u2 u1 u0 v1 v2):=qhO hv h0;have A8:Hid (∀q r:Nat,fP u2 u1 u0 v1 v2<=q->q*v1+r=u2*4294967296+u1->¬(jT q v2<r\/(jT q v2=r/\gN q v2<=u0))->0<q/\fP u2 u1 u0 v1 v2<=q-1/\(q-1)*v1+(r+v1)=u2*4294967296+u1):=qhP hv h0;have Si:=Lib.hid (qhR (u2:=u2) (u1:=u1) (v2:=v2) hv h0);have HL3:Hid (fP u2 u1 u0 v1 v2<=4294967295):=Nat.min_le_left _ _;generalize hE:fP u2 u1 u0 v1 v2=E at*;clear hE
 obtain rfl:u2=v1:=by omega
 have aO:=Lib.hid (Bt u1 u2 0 w h1 hv1 (by omega))
 have ha:gG u1 u2 0+fI u1 u2 0*4294967296=u1+u2:=by unfold gG fI;omega
 have zG:gG u1 u2 0<4294967296:=IL _ _ _
 have zH:fI u1 u2 0<=1:=by unfold fI;omega
 go_enter Tryz.func191,Tryz.ntmps191
 go_wp2_with (fail);refine aO.out.mono ?_;rintro e w1 ⟨rfl,rfl⟩;generalize gG u1 u2 0=r0 at*;generalize fI u1 u2 0=o0 at*
 have HI:Hid (4294967295*u2+(r0+o0*4294967296)=u2*4294967296+u1):=by show _=_;omega
 go_wp2
 go_loopw [11,12,13] (λq r o wr=>∃(q' r' o':Nat),q=.int .u32 q'/\r=.int .u32 r'/\o=.int .u32 o'/\q'<=4294967295/\r'<4294967296/\o'<=1/\Hid (E<=q')/\Hid (q'*u2+(r'+o'*4294967296)=u2*4294967296+u1)/\Hid (Ext w wr)) (λq _ _ _=>(intOf q).toNat)
 case atStart=>exact⟨4294967295,r0,o0,rfl,rfl,rfl,Nat.le_refl _,zG,zH,HL3,HI,Ext.refl _⟩
 case round=>
  obtain⟨q',r',o',rfl,rfl,rfl,Qd,Aa,EA,oq,lI,iQ⟩:=hrel
  by_cases ho:o'=0
  ·subst ho
   have oO:Hid (q'*u2+r'=u2*4294967296+u1):=by have:=lI.out;show _=_;omega
   have CM:=Lib.hid (TI q' v2 wr (by omega) hv2);have Mc:=QS q' v2;have hmh:=qmm q' v2 (by omega) hv2;go_wp2_with (fail);refine CM.out.mono ?_;rintro e w2 ⟨rfl,rfl⟩;have HB:=Lib.hid (jD.out q' r' Qd oq.out oO.out);have HN:=Lib.hid (A8.out q' r' oq.out oO.out);generalize jT q' v2=mh at*;generalize gN q' v2=ml at*;clear CM lI jD A8 o5
   by_cases h3:mh<r'
   ·have hF:q'=E:=HB.out (.inl h3);subst hF
    have h3':(mh:Int)<(r':Int):=by omega
    go_wp2;go_ret;exact⟨rfl,iQ.out⟩
   ·have h3':¬(mh:Int)<(r':Int):=by omega
    by_cases h4:mh=r'/\ml<=u0
    ·obtain⟨rfl,h5⟩:=h4;have hF:q'=E:=HB.out (.inr ⟨rfl,h5⟩);subst hF
     have h5':(ml:Int)<=(u0:Int):=by omega
     go_wp2;go_ret;exact⟨rfl,iQ.out⟩
    ·obtain⟨rT,aU,oW⟩:=HN.out (λh=>h.elim h3 h4);have aU:=Lib.hid aU;have oW:=Lib.hid oW;have CA:=Lib.hid (Bt r' u2 0 wr Aa hv1 (by omega))
     have ha:gG r' u2 0+fI r' u2 0*4294967296=r'+u2:=by unfold gG fI;omega
     have zG:gG r' u2 0<4294967296:=IL _ _ _
     have zH:fI r' u2 0<=1:=by unfold fI;omega
     have NY:Hid ((q'-1)*u2+(gG r' u2 0+fI r' u2 0*4294967296)=u2*4294967296+u1):=by show _=_;rw[ha];exact oW.out
     generalize gG r' u2 0=rn at*;generalize fI r' u2 0=on at*
     have Jp:((q':Int)-1)=((q'-1:Nat):Int):=by omega
     have hw:IntKind.u32.wrap ((q':Int)-1)=(q':Int)-1:=by rw[Jp];exact wrap_u32 _ (by omega)
     by_cases h6:mh=r'
     ·subst h6
      have h5':¬(ml:Int)<=(u0:Int):=by have:¬ml<=u0:=λh=>h4 ⟨rfl,h⟩;omega
      clear h4 HB HN ha oW;go_wp2_with (fail);refine CA.out.mono ?_;rintro e w3 ⟨rfl,rfl⟩;go_wp2
      go_roundw
      case rel=>exact⟨q'-1,rn,on,by rw[<-Jp],rfl,rfl,by omega,zG,zH,aU,NY,iQ⟩
      case measure=>simp[intOf];omega
     ·have h6':((mh:Int)==(r':Int))=false:=by simp;omega
      clear h4 HB HN ha oW;go_wp2_with (fail);refine CA.out.mono ?_;rintro e w3 ⟨rfl,rfl⟩;go_wp2
      go_roundw
      case rel=>exact⟨q'-1,rn,on,by rw[<-Jp],rfl,rfl,by omega,zG,zH,aU,NY,iQ⟩
      case measure=>simp[intOf];omega
  ·have ho1:o'=1:=by omega
   have hF:=o5.out q' r' o' Qd oq.out lI.out (by omega);subst hF ho1;clear lI oq;go_wp2;go_ret;exact⟨rfl,iQ.out⟩
theorem qsr(u2 u1 u0 v1 v2:Nat)(w:World)(h2:u2<v1)(h1:u1<4294967296)(h0:u0<4294967296)(hv:0<v1)(hv1:v1<4294967296)(hv2:v2<4294967296):
 Calls Tryz.prog 191 #[.int .u32 u2,.int .u32 u1,.int .u32 u0,.int .u32 v1,.int .u32 v2] w λe w'=>e=.returned (.int .u32 (fP u2 u1 u0 v1 v2:Nat))/\Ext w w':=by
 have o5:Hid (∀q r o:Nat,q<=4294967295->fP u2 u1 u0 v1 v2<=q->q*v1+(r+o*4294967296)=u2*4294967296+u1->0<o->q=fP u2 u1 u0 v1 v2):=qhS hv hv2;have jD:Hid (∀q r:Nat,q<=4294967295->fP u2 u1 u0 v1 v2<=q->q*v1+r=u2*4294967296+u1->(jT q v2<r\/(jT q v2=r/\gN q v2<=u0))->q=fP u2 u1 u0 v1 v2):=qhO hv h0;have A8:Hid (∀q r:Nat,fP u2 u1 u0 v1 v2<=q->q*v1+r=u2*4294967296+u1->¬(jT q v2<r\/(jT q v2=r/\gN q v2<=u0))->0<q/\fP u2 u1 u0 v1 v2<=q-1/\(q-1)*v1+(r+v1)=u2*4294967296+u1):=qhP hv h0;have Ce:=qhR (u2:=u2) (u1:=u1) (v2:=v2) hv h0;have HL3:Hid (fP u2 u1 u0 v1 v2<=4294967295):=Nat.min_le_left _ _;generalize hE:fP u2 u1 u0 v1 v2=E at*;clear hE;obtain⟨q0,r0,rT,EC,hq,hm,HI⟩:=qhQ u2 u1 v1 h2 h1;have aS:=qgQ u2 u1 v1 w h2 h1 hv1;rw[<-rT, <-EC]at aS;rw[<-rT]at Ce;have Si:=Lib.hid Ce;have aO:=Lib.hid aS
 have Jf:¬((v1:Int)<=(u2:Int)):=by omega
 clear aS rT EC Ce
 go_enter Tryz.func191,Tryz.ntmps191
 go_wp2_with (fail);refine aO.out.mono ?_;rintro e w1 ⟨rfl,rfl⟩;go_wp2
 go_loopw [11,12,13] (λq r o wr=>∃(q' r' o':Nat),q=.int .u32 q'/\r=.int .u32 r'/\o=.int .u32 o'/\q'<=4294967295/\r'<4294967296/\o'<=1/\Hid (E<=q')/\Hid (q'*v1+(r'+o'*4294967296)=u2*4294967296+u1)/\Hid (Ext w wr)) (λq _ _ _=>(intOf q).toNat)
 case atStart=>exact⟨q0,r0,0,rfl,rfl,rfl,by omega,by omega,by omega,Si,HI,(Ext.refl w).drew⟩
 case round=>
  obtain⟨q',r',o',rfl,rfl,rfl,Qd,Aa,EA,oq,lI,iQ⟩:=hrel
  by_cases ho:o'=0
  ·subst ho
   have oO:Hid (q'*v1+r'=u2*4294967296+u1):=by have:=lI.out;show _=_;omega
   have CM:=Lib.hid (TI q' v2 wr (by omega) hv2);have Mc:=QS q' v2;have hmh:=qmm q' v2 (by omega) hv2;go_wp2_with (fail);refine CM.out.mono ?_;rintro e w2 ⟨rfl,rfl⟩;have HB:=Lib.hid (jD.out q' r' Qd oq.out oO.out);have HN:=Lib.hid (A8.out q' r' oq.out oO.out);generalize jT q' v2=mh at*;generalize gN q' v2=ml at*;clear CM lI jD A8 o5
   by_cases h3:mh<r'
   ·have hF:q'=E:=HB.out (.inl h3);subst hF
    have h3':(mh:Int)<(r':Int):=by omega
    go_wp2;go_ret;exact⟨rfl,iQ.out⟩
   ·have h3':¬(mh:Int)<(r':Int):=by omega
    by_cases h4:mh=r'/\ml<=u0
    ·obtain⟨rfl,h5⟩:=h4;have hF:q'=E:=HB.out (.inr ⟨rfl,h5⟩);subst hF
     have h5':(ml:Int)<=(u0:Int):=by omega
     go_wp2;go_ret;exact⟨rfl,iQ.out⟩
    ·obtain⟨rT,aU,oW⟩:=HN.out (λh=>h.elim h3 h4);have aU:=Lib.hid aU;have oW:=Lib.hid oW;have CA:=Lib.hid (Bt r' v1 0 wr Aa hv1 (by omega))
     have ha:gG r' v1 0+fI r' v1 0*4294967296=r'+v1:=by unfold gG fI;omega
     have zG:gG r' v1 0<4294967296:=IL _ _ _
     have zH:fI r' v1 0<=1:=by unfold fI;omega
     have NY:Hid ((q'-1)*v1+(gG r' v1 0+fI r' v1 0*4294967296)=u2*4294967296+u1):=by show _=_;rw[ha];exact oW.out
     generalize gG r' v1 0=rn at*;generalize fI r' v1 0=on at*
     have Jp:((q':Int)-1)=((q'-1:Nat):Int):=by omega
     have hw:IntKind.u32.wrap ((q':Int)-1)=(q':Int)-1:=by rw[Jp];exact wrap_u32 _ (by omega)
     by_cases h6:mh=r'
     ·subst h6
      have h5':¬(ml:Int)<=(u0:Int):=by have:¬ml<=u0:=λh=>h4 ⟨rfl,h⟩;omega
      clear h4 HB HN ha oW;go_wp2_with (fail);refine CA.out.mono ?_;rintro e w3 ⟨rfl,rfl⟩;go_wp2
      go_roundw
      case rel=>exact⟨q'-1,rn,on,by rw[<-Jp],rfl,rfl,by omega,zG,zH,aU,NY,iQ⟩
      case measure=>simp[intOf];omega
     ·have h6':((mh:Int)==(r':Int))=false:=by simp;omega
      clear h4 HB HN ha oW;go_wp2_with (fail);refine CA.out.mono ?_;rintro e w3 ⟨rfl,rfl⟩;go_wp2
      go_roundw
      case rel=>exact⟨q'-1,rn,on,by rw[<-Jp],rfl,rfl,by omega,zG,zH,aU,NY,iQ⟩
      case measure=>simp[intOf];omega
  ·have ho1:o'=1:=by omega
   have hF:=o5.out q' r' o' Qd oq.out lI.out (by omega);subst hF ho1;clear lI oq;go_wp2;go_ret;exact⟨rfl,iQ.out⟩
theorem qss(u2 u1 u0 v1 v2:Nat)(w:World)(h2:u2<=v1)(h1:u1<4294967296)(h0:u0<4294967296)(hv:0<v1)(hv1:v1<4294967296)(hv2:v2<4294967296):
 Calls Tryz.prog 191 #[.int .u32 u2,.int .u32 u1,.int .u32 u0,.int .u32 v1,.int .u32 v2] w λe w'=>e=.returned (.int .u32 (fP u2 u1 u0 v1 v2:Nat))/\Ext w w':=by
 by_cases h:u2=v1
 ·exact qsq u2 u1 u0 v1 v2 w h h1 h0 hv hv1 hv2
 ·exact qsr u2 u1 u0 v1 v2 w (by omega) h1 h0 hv hv1 hv2
theorem q9(d:Nat->Nat)(n:Nat):nv d (n+1)=nv d n+d n*4294967296^n:=rfl
theorem qzl{y d c:Nat}(hy:y<4294967296)(hd:d<4294967296)(hc:c<4294967296):y*d+c=gG (gN y d) c 0+(jT y d+fI (gN y d) c 0)*4294967296/\jT y d+fI (gN y d) c 0<4294967296:=by
 have h1:y*d<=4294967295*4294967295:=Nat.mul_le_mul (by omega) (by omega);unfold gG fI gN jT;omega
theorem qof{p l b:Nat}(hp:p<4294967296)(hl:l<4294967296)(hb:b<=1):yz p l b+l+b=p+borrow p l b*4294967296/\yz p l b<4294967296/\borrow p l b<=1:=by
 unfold yz borrow
 split<;>omega
structure Bq(w:World)(g T off j:Nat)(s:Nat->Nat)(wr:World)(s':Nat->Nat):Prop where
 dg:iP wr g T s'
 same:∀i,i<off\/off+j<=i->s' i=s i
 gr:w.grownBy wr (some g)
theorem Bq.set{w wr:World}{g T off j:Nat}{s s':Nat->Nat}(h:Bq w g T off j s wr s')(u:Nat)(hu:u<4294967296):Bq w g T off (j+1) s (wr.setCell ⟨g,off+j,none⟩ (.int .u32 u)) (cK s' (off+j) u):=
 ⟨h.dg.set (off+j) u hu,λi hi=>by unfold cK;rw[if_neg (by omega)];exact h.same i (by omega),qaA h.gr _⟩
theorem VK(s':Nat->Nat)(off j u:Nat):nv (λi=>cK s' (off+j) u (off+i)) (j+1)=nv (λi=>s' (off+i)) j+u*4294967296^j:=by
 rw[q9]
 congr 1
 ·exact nV _ _ _ λi hi=>by unfold cK;rw[if_neg (by omega)]
 ·unfold cK;rw[if_pos rfl]
theorem qmE{M:Nat->Prop}{w wr:World}{g:Nat}{a:Option Addr}{n c:Nat}{d:Nat->Nat}(h:dK M w (.slice a n c) n d)(hne:∀p,a=some p->p.block≠g)(hg:w.grownBy wr (some g))(j:Nat)(hj:j<n):
 ∃b o,a=some ⟨b,o,none⟩/\b<wr.heap.size/\wr.cell? ⟨b,o+j,none⟩=some (.int .u32 (d j)):=by
 obtain⟨b,o,rfl,hb,hc⟩:=mU h (by omega);have wG:b≠g:=hne _ rfl;exact⟨b,o,rfl,Nat.lt_of_lt_of_le hb hg.size,by rw[World.cell?_of_block (w:=w) (hg.block b hb (by simpa using wG)),hc j hj]⟩
theorem qsx{M:Nat->Prop}(g off n cz T:Nat)(a2:Option Addr)(c2 d:Nat)(s V:Nat->Nat)(w:World)(hB:iP w g T s)(hT:off+n+1<=T)(h':dK M w (.slice a2 n c2) n V)(hne:∀p,a2=some p->p.block≠g)(hd:d<4294967296)(Gd:n+1<=cz):
 Calls Tryz.prog 192 #[.slice (some ⟨g,off,none⟩) (n+1) cz,.slice a2 n c2,.int .u32 d] w λq w'=>∃(b:Bool)(s':Nat->Nat),q=.returned (.bool b)/\Bq w g T off (n+1) s w' s'/\
  nv (λi=>s' (off+i)) (n+1)+d*nv V n=nv (λi=>s (off+i)) (n+1)+(if b then 1 else 0)*4294967296^(n+1):=by
 have eu:=h'.1;have HV:=Lib.hid h'.2.1;have HR:=Lib.hid h';have oQ:=Lib.hid hne;have HS:=Lib.hid hB.2;have sF:Hid (Bq w g T off 0 s w s):=⟨hB,λ_ _=>rfl,Uq _ _⟩;clear h' hne hB
 go_enter Tryz.func192,Tryz.ntmps192
 go_wp2
 go_loopw [17,7,8] (λi c b wr=>∃(j c' b':Nat)(s':Nat->Nat),j<=n/\i=.int .i64 j/\c=.int .u32 c'/\b=.int .u32 b'/\c'<4294967296/\b'<=1/\Hid (Bq w g T off j s wr s')/\Hid (nv (λi=>s' (off+i)) j+d*nv V j=nv (λi=>s (off+i)) j+(b'+c')*4294967296^j)) (λi _ _ _=>n-(intOf i).toNat)
 case atStart=>exact⟨0,0,0,s,Nat.zero_le _,rfl,rfl,rfl,by omega,by omega,sF,(by show _=_;simp[nv])⟩
 case round=>
  clear sF;obtain⟨j,c,b,s',hj,rfl,rfl,rfl,hc,hb,fO,lI⟩:=hrel;have pI:=fO.out.gr;have Jk:=fO.out.dg.1.lt
  by_cases hlt:j<n
  ·obtain⟨vb,vo,rfl,Jv,Qq⟩:=qmE HR.out oQ.out pI j hlt
   have g3:wr.cell? ⟨g,off+j,none⟩=some (.int .u32 (s (off+j))):=by rw[fO.out.dg.1.cell (by omega),fO.out.same _ (by omega)]
   have g4:=fO.out.dg.1.frozen (off+j);have sU:=HV.out j hlt;have Ck:=HS.out (off+j) (by omega);obtain⟨hm,qO⟩:=qzl (c:=c) sU hd hc;have bT:=IL (gN (V j) d) c 0
   have qCq:fI (gN (V j) d) c 0<=1:=by have:=QS (V j) d;unfold fI;omega
   have CM:=Lib.hid (TI (V j) d wr sU hd);have CA:=Lib.hid (Bt (gN (V j) d) c 0 wr (QS _ _) hc (by omega));obtain⟨dP,hs2,qR⟩:=qof (l:=gG (gN (V j) d) c 0) Ck bT hb;have CS:=Lib.hid (ZK (s (off+j)) (gG (gN (V j) d) c 0) b wr Ck bT (by omega))
   have oO:Hid (nv (λi=>cK s' (off+j) (yz (s (off+j)) (gG (gN (V j) d) c 0) b) (off+i)) (j+1)+d*nv V (j+1)=nv (λi=>s (off+i)) (j+1)+(borrow (s (off+j)) (gG (gN (V j) d) c 0) b+(jT (V j) d+fI (gN (V j) d) c 0))*4294967296^(j+1)):=by
    show _=_;rw[VK,q9 V,q9 (λi=>s (off+i)),Nat.pow_succ];exact qop lI.out hm dP
   have Kr:=Lib.hid (fO.out.set _ hs2)
   have P8:IntKind.u32.wrap (((jT (V j) d:Nat):Int)+((fI (gN (V j) d) c 0:Nat):Int))=((jT (V j) d:Nat):Int)+((fI (gN (V j) d) c 0:Nat):Int):=by
    have:=wrap_u32 (jT (V j) d+fI (gN (V j) d) c 0) qO;simpa using this
   clear hm dP;go_wp2_with (fail);refine CM.out.mono ?_;rintro e w2 ⟨rfl,rfl⟩;go_wp2_with (fail);refine CA.out.mono ?_;rintro e w3 ⟨rfl,rfl⟩;clear CM CA;go_wp2_with (fail);refine CS.out.mono ?_;rintro e w4 ⟨rfl,rfl⟩;generalize yz (s (off+j)) (gG (gN (V j) d) c 0) b=r at*;generalize borrow (s (off+j)) (gG (gN (V j) d) c 0) b=b2 at*;generalize fI (gN (V j) d) c 0=ov at*;generalize jT (V j) d=mh at*;clear CS pI;go_wp2
   go_roundw
   case rel=>exact⟨j+1,mh+ov,b2,cK s' (off+j) r,by omega,by go_num,by simp,rfl,qO,qR,Kr,oO⟩
   case measure=>simp[intOf];omega
  ·obtain rfl:j=n:=by omega
   have g3:wr.cell? ⟨g,off+j,none⟩=some (.int .u32 (s (off+j))):=by rw[fO.out.dg.1.cell (by omega),fO.out.same _ (by omega)]
   have g4:=fO.out.dg.1.frozen (off+j);have Ck:=HS.out (off+j) (by omega);obtain⟨dP,hs2,qR⟩:=qof (l:=c) Ck hc hb;have CS:=Lib.hid (ZK (s (off+j)) c b wr Ck hc (by omega))
   have oO:Hid (nv (λi=>cK s' (off+j) (yz (s (off+j)) c b) (off+i)) (j+1)+d*nv V j=nv (λi=>s (off+i)) (j+1)+borrow (s (off+j)) c b*4294967296^(j+1)):=by
    show _=_;rw[VK,q9 (λi=>s (off+i)),Nat.pow_succ];have:=qop (v:=0) (low:=c) (hi:=0) lI.out (by omega) dP;simpa using this
   have Kr:=Lib.hid (fO.out.set _ hs2)
   have qt6:(j:Int)<((j+1:Nat):Int):=by omega
   clear dP pI;go_wp2_with (fail);refine CS.out.mono ?_;rintro e w4 ⟨rfl,rfl⟩;generalize yz (s (off+j)) c b=r at*;generalize borrow (s (off+j)) c b=b2 at*;clear CS
   have HF:Hid (∃(bb:Bool)(s':Nat->Nat),Ending.returned (.bool (((b2:Nat):Int)!=0))=.returned (.bool bb)/\Bq w g T off (j+1) s (wr.setCell ⟨g,off+j,none⟩ (.int .u32 r)) s'/\nv (λi=>s' (off+i)) (j+1)+d*nv V j=nv (λi=>s (off+i)) (j+1)+(if bb then 1 else 0)*4294967296^(j+1)):=by
    refine⟨_,_,rfl,Kr.out,?_⟩;have:=oO.out
    have h01:b2=0\/b2=1:=by omega
    rcases h01 with rfl|rfl
    ·simpa using this
    ·simpa using this
   clear oO Kr;go_wp2;go_ret;exact HF.out
theorem qgI{Sp Sv Sr c p v r c' x:Nat}(hinv:Sr+c*x=Sp+Sv)(h:r+c'*4294967296=p+v+c):Sr+r*x+c'*(x*4294967296)=Sp+p*x+(Sv+v*x):=by
 have e:r*x+c'*(x*4294967296)=p*x+v*x+c*x:=by
  rw[Nat.mul_comm x 4294967296, <-Nat.mul_assoc, <-Nat.add_mul,h,Nat.add_mul,Nat.add_mul]
 omega
def qdO(w:World)(g off n T:Nat)(s V:Nat->Nat)(q:Ending)(w':World):Prop:=∃(k:Nat)(s':Nat->Nat),q=.returned (.tuple #[])/\Bq w g T off (n+1) s w' s'/\
 nv (λi=>s' (off+i)) (n+1)+k*4294967296^(n+1)=nv (λi=>s (off+i)) (n+1)+nv V n
theorem qso{M:Nat->Prop}(g off n cz T:Nat)(a2:Option Addr)(c2:Nat)(s V:Nat->Nat)(w:World)(hB:iP w g T s)(hT:off+n+1<=T)(h':dK M w (.slice a2 n c2) n V)(hne:∀p,a2=some p->p.block≠g)(Gd:n+1<=cz):
 Calls Tryz.prog 193 #[.slice (some ⟨g,off,none⟩) (n+1) cz,.slice a2 n c2] w (qdO w g off n T s V):=by
 have eu:=h'.1;have HV:=Lib.hid h'.2.1;have HR:=Lib.hid h';have oQ:=Lib.hid hne;have HS:=Lib.hid hB.2;have sF:Hid (Bq w g T off 0 s w s):=⟨hB,λ_ _=>rfl,Uq _ _⟩;clear h' hne hB
 go_enter Tryz.func193,Tryz.ntmps193
 go_wp2
 go_loopw [9,4] (λi c wr=>∃(j c':Nat)(s':Nat->Nat),j<=n/\i=.int .i64 j/\c=.int .u32 c'/\c'<=1/\Hid (Bq w g T off j s wr s')/\Hid (nv (λi=>s' (off+i)) j+c'*4294967296^j=nv (λi=>s (off+i)) j+nv V j)) (λi _ _=>n-(intOf i).toNat)
 case atStart=>exact⟨0,0,s,Nat.zero_le _,rfl,rfl,by omega,sF,(by show _=_;simp[nv])⟩
 case round=>
  clear sF;obtain⟨j,c,s',hj,rfl,rfl,hc,fO,lI⟩:=hrel;have pI:=fO.out.gr;have Jk:=fO.out.dg.1.lt
  by_cases hlt:j<n
  ·obtain⟨vb,vo,rfl,Jv,Qq⟩:=qmE HR.out oQ.out pI j hlt
   have g3:wr.cell? ⟨g,off+j,none⟩=some (.int .u32 (s (off+j))):=by rw[fO.out.dg.1.cell (by omega),fO.out.same _ (by omega)]
   have g4:=fO.out.dg.1.frozen (off+j);have sU:=HV.out j hlt;have Ck:=HS.out (off+j) (by omega)
   have dP:gG (s (off+j)) (V j) c+fI (s (off+j)) (V j) c*4294967296=s (off+j)+V j+c:=by unfold gG fI;omega
   have hs2:=IL (s (off+j)) (V j) c
   have qR:fI (s (off+j)) (V j) c<=1:=by unfold fI;omega
   have CA:=Lib.hid (Bt (s (off+j)) (V j) c wr Ck sU (by omega))
   have oO:Hid (nv (λi=>cK s' (off+j) (gG (s (off+j)) (V j) c) (off+i)) (j+1)+fI (s (off+j)) (V j) c*4294967296^(j+1)=nv (λi=>s (off+i)) (j+1)+nv V (j+1)):=by
    show _=_;rw[VK,q9 V,q9 (λi=>s (off+i)),Nat.pow_succ];exact qgI lI.out dP
   have Kr:=Lib.hid (fO.out.set _ hs2);clear dP;go_wp2_with (fail);refine CA.out.mono ?_;rintro e w3 ⟨rfl,rfl⟩;generalize gG (s (off+j)) (V j) c=r at*;generalize fI (s (off+j)) (V j) c=c3 at*;clear CA pI;go_wp2
   go_roundw
   case rel=>exact⟨j+1,c3,cK s' (off+j) r,by omega,by go_num,rfl,qR,Kr,oO⟩
   case measure=>simp[intOf];omega
  ·obtain rfl:j=n:=by omega
   have g3:wr.cell? ⟨g,off+j,none⟩=some (.int .u32 (s (off+j))):=by rw[fO.out.dg.1.cell (by omega),fO.out.same _ (by omega)]
   have g4:=fO.out.dg.1.frozen (off+j);have Ck:=HS.out (off+j) (by omega)
   have qt6:(j:Int)<((j+1:Nat):Int):=by omega
   obtain⟨r,hr⟩:∃r,r=(s (off+j)+c)%4294967296:=⟨_,rfl⟩
   have hs2:r<4294967296:=by omega
   have hw:IntKind.u32.wrap ((s (off+j):Int)+(c:Int))=r:=by
    rw[IntKind.wrap_u32];omega
   have kQ:((s (off+j):Int)+(c:Int))%4294967296=r:=by omega
   have HF:Hid (qdO w g off j T s V (.returned (.tuple #[])) (wr.setCell ⟨g,off+j,none⟩ (.int .u32 r))):=by
    refine⟨(s (off+j)+c)/4294967296,_,rfl,fO.out.set r hs2,?_⟩;rw[VK,q9 (λi=>s (off+i)),Nat.pow_succ];have:=qgI (v:=0) (p:=s (off+j)) (r:=r) (c':=(s (off+j)+c)/4294967296) lI.out (by omega);simpa using this
   clear hr pI;go_wp2
   go_end0
   exact HF.out
theorem qsh{x:Nat}(h:x<18446744073709551616):az x<=2:=(o9 x 2).2 h
theorem qmD{M:Nat->Prop}(v:Value)(x:Nat)(w:World)(h:fA M w v x)(hx:x<18446744073709551616):
 Calls Tryz.prog 165 #[v] w λe w'=>e=.returned (.tuple #[.int .u64 x,.bool true])/\Ext w w':=by
 obtain⟨n,d,hr,yn⟩:=h;have hl:=qsh hx;have htl:=Wp d n hr.2.1;rw[yn]at htl;have mK:=rV d n;rw[yn]at mK;have aO:=Lib.hid (vK v n d w hr);have HD:=Lib.hid hr.2.1;have Mm:=EU d n;clear hr yn
 go_enter Tryz.func165,Tryz.ntmps165
 go_wp2_with (fail);refine aO.out.mono ?_;rintro e w' ⟨v',rfl,lC,rfl⟩;clear aO;obtain⟨a,cap,rfl⟩:=kE lC;generalize tl d n=k at*
 have hk:k=0\/k=1\/k=2:=by omega
 clear hl htl;rcases hk with rfl|rfl|rfl
 ·obtain rfl:x=0:=mK.symm;clear mK lC Mm;go_wp2;exact bodyPost_ret (v:=.tuple #[.int .u64 0,.bool true]) (by simp[results,Tryz.results165,go_sem]) rfl ⟨rfl,Ext.refl _⟩
 ·obtain rfl:x=d 0:=by have:=mK;simp[nv]at this;exact this.symm
  obtain⟨b,o,rfl,hb,hc⟩:=mU lC (by omega);have c0:=hc 0 (by omega);have d0:=HD.out 0 (by omega);rw[Nat.add_zero]at c0;clear mK lC hc Mm HD;go_wp2;exact bodyPost_ret (v:=.tuple #[.int .u64 (d 0),.bool true]) (by simp[results,Tryz.results165,go_sem]) rfl ⟨rfl,Ext.refl _⟩
 ·have hxe:x=d 1*4294967296+d 0:=by have:=mK;simp[nv]at this;omega
  obtain⟨b,o,rfl,hb,hc⟩:=mU lC (by omega);have c0:=hc 0 (by omega);have c1:=hc 1 (by omega);have d0:=HD.out 0 (by omega);have d1:=HD.out 1 (by omega);have hor:=qm8 (d 1) (d 0) d1 d0;rw[<-hxe]at hor;have Sw:=Lib.hid hor;clear hor hxe;rw[Nat.add_zero]at c0;clear mK lC hc Mm HD hx;generalize d 0=p0 at*;generalize d 1=p1 at*;have HS:Hid ((λw':World=>w'.cell? ⟨b,o,none⟩=some (.int .u32 p0)/\w'.cell? ⟨b,o+1,none⟩=some (.int .u32 p1)) w.drew):=⟨c0,c1⟩;clear c0 c1;have e1:IntKind.u64.wrap (p1:Int)=p1:=wrap_u64 p1 (by omega);have e0:IntKind.u64.wrap (p0:Int)=p0:=wrap_u64 p0 (by omega);go_wp2;refine fM (λw':World=>w'.cell? ⟨b,o,none⟩=some (.int .u32 p0)/\w'.cell? ⟨b,o+1,none⟩=some (.int .u32 p1)) 11 (by kernel_rfl) HS.out (λhHeld=>?_);(refine dF [0,1,2,3,4,5,6,7,8,9,10] ?_;(iterate 11 (refine dD (v:=?_) ?_ ?_;rotate_left 1;(intro wS hSw;obtain⟨S1,S2⟩:=hSw;go_simp;try with_reducible rfl);(try simp only[Act.put,aD,aF,aG])));refine dG ?_);((refine aK 11 ?_;intro K hK);go_simp;(refine hK.out _ _ (λh=>absurd rfl h) ?_);clear hK K;refine ek ?_);go_wp2;have e2:IntKind.u64.wrap ((p1:Int)*4294967296)=(p1:Int)*4294967296:=IntWalk.u64_in _ (by omega);rw[e2,Sw.out];exact bodyPost_ret (v:=.tuple #[.int .u64 x,.bool true]) (by simp[results,Tryz.results165,go_sem]) rfl ⟨rfl,(Ext.refl _).drew⟩
theorem qr9{N Q r D q r' dd:Nat}(h:N=dd*Q+r)(hq:q*dd+r'=r*4294967296+D):D+4294967296*N=dd*(q+4294967296*Q)+r':=by
 subst h;rw[Nat.mul_add,Nat.mul_add,Nat.mul_comm dd q,Nat.mul_left_comm dd 4294967296 Q];omega
def qee(M:Nat->Prop)(w:World)(x dd:Nat)(e:Ending)(w':World):Prop:=∃u,e=.returned (.tuple #[u,.int .u32 (x%dd:Nat),.bool true])/\gT M w' u (x/dd)/\Ext w w'
theorem qwR{M:Nat->Prop}(v:Value)(x dd:Nat)(w:World)(hM:Mb M w)(h:fA M w v x)(h0:0<dd)(hd:dd<4294967296):
 Calls Tryz.prog 188 #[v,.int .u32 dd] w (qee M w x dd):=by
 obtain⟨i0,hi,hz0,hz1,hz2⟩:=info_parts Tryz.EK;obtain⟨n0,d,hr,yn⟩:=h;have mK:=rV d n0;rw[yn]at mK;have aO:=Lib.hid (vK v n0 d w hr);have ic:=Lib.hid hr.2.1;have Mm:=EU d n0;have eu:=hr.1;have HM:=Lib.hid hM;clear hr yn hM
 have hd0:((dd:Int)==0)=false:=by simp;omega
 go_enter Tryz.func188,Tryz.ntmps188
 go_wp2_with (fail);refine aO.out.mono ?_;rintro e w' ⟨v',rfl,lC,rfl⟩;clear aO;obtain⟨a,cap,rfl⟩:=kE lC;generalize tl d n0=n at*;have HD:Hid (∀i,i<n->d i<4294967296):=λi hi=>ic.out i (by omega);have HR:=Lib.hid lC;have HX:=Lib.hid mK;clear lC ic mK
 go_wp2_with (first|(refine wpList_make_full _ rfl _ _ _ rfl w.heap.size 155 i0 (.int .u32 0) 1 Tryz.underlying28 hi hz0 hz1 .i64 .i64 _ _ n rfl rfl ?c4 ?c5 ?c2 ?c3 ?c6 ?_))
 case c2=>rw[hz2];omega
 case c3=>unfold maxLen;omega
 case c4=>simp
 case c5=>simp
 case c6=>simp
 intro w1 hown hgrow;have oh:Hid (iP w1 w.heap.size n (λ_=>0)):=⟨ak.Am hown,λ_ _=>(by decide:0<4294967296)⟩;have aL:=Lib.hid (lM hgrow);clear hown hgrow;go_wp2
 go_loopw [9,8] (λi r wr=>∃(k r':Nat)(s':Nat->Nat),k<=n/\i=.int .i64 ((k:Int)-1)/\r=.int .u32 r'/\r'<dd/\Hid (iP wr w.heap.size n s')/\Hid (nv (λt=>d (k+t)) (n-k)=dd*nv (λt=>s' (k+t)) (n-k)+r')/\Hid (Ext w wr)) (λi _ _=>(intOf i+1).toNat)
 case atStart=>exact⟨n,0,_,Nat.le_refl _,rfl,rfl,h0,oh,(by show _=_;rw[Nat.sub_self];simp[nv]),aL⟩
 case round=>
  clear oh aL;obtain⟨k,r,s',hk,rfl,rfl,hr,jw,lI,iQ⟩:=hrel
  by_cases fJ:k=0
  ·subst fJ
   have heq:nv d n=dd*nv s' n+r:=by
    have:=lI.out;simpa using this
   rw[HX.out]at heq
   have hq:x/dd=nv s' n:=by
    rw[heq,Nat.mul_add_div h0,Nat.div_eq_of_lt hr,Nat.add_zero]
   have hm:x%dd=r:=by
    rw[heq,Nat.mul_add_mod,Nat.mod_eq_of_lt hr]
   have aS:=JK (M:=M) jw.out.1 (HM.out.new (Nat.le_refl _)) (by unfold maxLen;omega) jw.out.2 (by have:=xO _ _ jw.out.2;omega);rw[<-hq]at aS;have aO:=Lib.hid aS;have Yd:=Lib.hid hm;clear aS heq hq hm;go_wp2_with (fail);refine aO.out.mono ?_;rintro e w2 ⟨u,rfl,hu,rfl⟩;have HF:Hid (qee M w x dd (.returned (.tuple #[u,.int .u32 (r:Nat),.bool true])) wr):=⟨u,by rw[Yd.out],hu,iQ.out⟩;clear hu aO;go_wp2;exact bodyPost_ret (v:=.tuple #[u,.int .u32 (r:Nat),.bool true]) (by simp[results,Tryz.results188,go_sem]) rfl HF.out
  ·obtain⟨j,hj⟩:∃j,j=k-1:=⟨k-1,rfl⟩
   have Gl:k=j+1:=by omega
   obtain⟨b,o,rfl,hb,hc⟩:=mU HR.out (by omega);have c0:=hc j (by omega);rw[<-iQ.out.cell hb]at c0
   have iH:b<wr.heap.size:=by have:=iQ.out.size;omega
   have dj:=HD.out j (by omega);have CD:=Lib.hid (qgQ r (d j) dd wr hr dj hd)
   have j1:(0:Int)<=(k:Int)-1:=by omega
   have j2:((k:Int)-1).toNat=j:=by omega
   have j3:(k:Int)-1<(n:Int):=by omega
   have g4:=jw.out.1.frozen j
   have PU:j<n:=by omega
   have g5:=jw.out.1.cell PU;have dZ:=jw.out.1.lt;obtain⟨q,r2,rT,EC,hq1,GA,HI⟩:=qhQ r (d j) dd hr dj
   have Qe:q*dd+r2=r*4294967296+d j:=by have:=HI.out;omega
   have oO:Hid (nv (λt=>d (j+t)) (n-j)=dd*nv (λt=>cK s' j q (j+t)) (n-j)+r2):=by
    show _=_;obtain⟨m,hm⟩:∃m,n-j=m+1:=⟨n-j-1,by omega⟩
    have he:nv (λt=>d (k+t)) m=dd*nv (λt=>s' (k+t)) m+r:=by
     have:=lI.out;rw[show n-k=m by omega]at this;exact this
    rw[hm,Q0,Q0,nV (λi=>cK s' j q (j+(i+1))) (λt=>s' (k+t)) m (λi _=>by unfold cK;rw[if_neg (by omega),show j+(i+1)=k+i by omega]),nV (λi=>d (j+(i+1))) (λt=>d (k+t)) m (λi _=>by rw[show j+(i+1)=k+i by omega]),he];show d (j+0)+_=dd*(cK s' j q (j+0)+_)+r2;rw[show cK s' j q (j+0)=q by unfold cK;rw[if_pos (Nat.add_zero _)],Nat.add_zero];exact qr9 rfl Qe
   have DZ:=(jw.out.ext ((Ext.refl wr).drew)).set j q hq1;have uM:=Lib.hid DZ;have aU:Hid (Ext w (wr.drew.setCell ⟨w.heap.size,j,none⟩ (.int .u32 q))):=(iQ.out.trans (Ext.refl _).drew).set (Nat.le_refl _) _;have aS:=CD.out;rw[<-rT, <-EC]at aS;have Hu:=Lib.hid aS;clear aS CD rT EC HI Qe DZ hj hc;go_wp2_with (fail);refine Hu.out.mono ?_;rintro e w2 ⟨rfl,rfl⟩;go_wp2
   go_roundw
   case rel=>exact⟨j,r2,cK s' j q,by omega,by go_num,rfl,GA,uM,oO,aU⟩
   case measure=>simp[intOf];omega
theorem qyR{y m s:Nat}(hs:s<=32)(hy:y<2^s)(hm:m<4294967296):y|||(m*2^s%4294967296)=y+m*2^s%4294967296:=by
 obtain⟨t,ht⟩:∃t,32=s+t:=⟨32-s,by omega⟩
 have e:m*2^s%4294967296=2^s*(m%2^t):=by
  rw[show(4294967296:Nat)=2^s*2^t by rw[<-Nat.pow_add, <-ht],Nat.mul_comm m,Nat.mul_mod_mul_left]
 rw[e,Nat.or_comm, <-Nat.two_pow_add_eq_or_of_lt hy,Nat.add_comm]
theorem qyQ{y m s:Nat}(hs:s<=32)(hy:y<2^s):y+m*2^s%4294967296<4294967296:=by
 obtain⟨t,ht⟩:∃t,32=s+t:=⟨32-s,by omega⟩
 have e0:(4294967296:Nat)=2^s*2^t:=by rw[<-Nat.pow_add, <-ht]
 have e:m*2^s%4294967296=2^s*(m%2^t):=by
  rw[e0,Nat.mul_comm m,Nat.mul_mod_mul_left]
 have h1:m%2^t+1<=2^t:=Nat.mod_lt _ (Nat.pow_pos (by decide));have h2:2^s*(m%2^t+1)<=2^s*2^t:=Nat.mul_le_mul_left _ h1;rw[Nat.mul_add, <-e,Nat.mul_one, <-e0]at h2;omega
theorem qyP{m s:Nat}(hs:s<=32)(hm:m<4294967296):m*2^s/4294967296<2^s:=by
 refine Nat.div_lt_of_lt_mul ?_;exact Nat.mul_lt_mul_of_pos_right hm (Nat.pow_pos (by decide))
theorem qyS(S y W x:Nat):S+(y+W%4294967296)*x+W/4294967296*(x*4294967296)=S+y*x+W*x:=by
 have h:W*x=W%4294967296*x+W/4294967296*(x*4294967296):=by
  rw[Nat.mul_comm x 4294967296, <-Nat.mul_assoc, <-Nat.add_mul,Nat.mod_add_div' W 4294967296]
 rw[h,Nat.add_mul];omega
theorem qmB{M:Nat->Prop}(v:Value)(x s:Nat)(w:World)(hM:Mb M w)(h:fA M w v x)(hs:s<32)(hL:az (x*2^s)<=1099511627776):
 Calls Tryz.prog 190 #[v,.int .i64 (s:Int)] w λe w'=>∃u,e=.returned u/\gT M w' u (x*2^s)/\Ext w w':=by
 obtain⟨i0,hi,hz0,hz1,hz2⟩:=info_parts Tryz.EK;obtain⟨n0,d,hr,yn⟩:=h;have mK:=rV d n0;rw[yn]at mK;have aO:=Lib.hid (vK v n0 d w hr);have ic:=Lib.hid hr.2.1;have Mm:=EU d n0;have eu:=hr.1;have HM:=Lib.hid hM;have HL:=Lib.hid hL;clear hr yn hM hL
 go_enter Tryz.func190,Tryz.ntmps190
 go_wp2_with (fail);refine aO.out.mono ?_;rintro e w' ⟨v',rfl,lC,rfl⟩;clear aO;obtain⟨a,cap,rfl⟩:=kE lC;generalize tl d n0=n at*;have HD:Hid (∀i,i<n->d i<4294967296):=λi hi=>ic.out i (by omega);have HR:=Lib.hid lC;have HX:=Lib.hid mK;clear lC ic mK
 by_cases iw:n=0
 ·subst iw
  have Ky:Hid (x=0):=by have:=HX.out;simp[nv]at this;exact this.symm
  go_wp2;go_ret;exact⟨_,rfl,by rw[Ky.out,Nat.zero_mul];exact gT.nil M w,Ext.refl _⟩
 ·have qbY:(n==0)=false:=by simp[iw]
  have t1:max (s:Int) 0=s:=by omega
  have t3:(s:Int)/32=0:=by omega
  have t4:(s:Int)%32=s:=by omega
  have t2:min (s:Int) 16777216=s:=by omega
  go_wp2_with (first|(refine wpList_make_full _ rfl _ _ _ rfl w.heap.size 155 i0 (.int .u32 0) 1 Tryz.underlying28 hi hz0 hz1 .i64 .i64 _ _ (n+1) rfl rfl ?c4 ?c5 ?c2 ?c3 ?c6 ?_))
  case c2=>rw[hz2];omega
  case c3=>unfold maxLen;omega
  case c4=>go_num
  case c5=>go_num
  case c6=>simp
  intro w1 hown hgrow;have oh:Hid (iP w1 w.heap.size (n+1) (λ_=>0)):=⟨ak.Am hown,λ_ _=>(by decide:0<4294967296)⟩;have aL:=Lib.hid (lM hgrow);have hp0:0<2^s:=Nat.pow_pos (by decide);have Sy:=Lib.hid hp0;clear hown hgrow t1 t2 t3 t4 hp0;go_wp2
  go_loopw [36] (λi wr=>∃(k:Nat)(s':Nat->Nat),k<=n/\i=.int .i64 k/\Hid (iP wr w.heap.size (n+1) s')/\Hid (nv s' (k+1)=nv d k*2^s/\s' k<2^s/\∀i,k<i->s' i=0)/\Hid (Ext w wr)) (λi _=>n-(intOf i).toNat)
  case atStart=>exact⟨0,_,Nat.zero_le _,rfl,oh,(by show _/\_/\_;exact⟨by simp[nv],Sy.out,λ_ _=>rfl⟩),aL⟩
  case round=>
   clear oh aL;obtain⟨k,s',hk,rfl,jw,lI,iQ⟩:=hrel
   by_cases hlt:k<n
   ·obtain⟨b,o,rfl,hb,hc⟩:=mU HR.out (by omega);have c0:=hc k hlt;rw[<-iQ.out.cell hb]at c0
    have iH:b<wr.heap.size:=by have:=iQ.out.size;omega
    have dk:=HD.out k hlt;have g5:=jw.out.1.cell (i:=k) (by omega);have g4:=jw.out.1.frozen k;have g6:=jw.out.1.frozen (k+1);have g7:=jw.out.1.cell (i:=k+1) (by omega);have dZ:=jw.out.1.lt;have yl:IntKind.u64.signed=false:=rfl;obtain⟨hq1,hq2,wP⟩:=lI.out
    have hW:d k*2^s<18446744073709551616:=by
     have h1:2^s<=2^31:=Nat.pow_le_pow_right (by decide) (by omega);have h2:d k*2^s<=4294967295*2^31:=Nat.mul_le_mul (by omega) h1;omega
    have hhi:d k*2^s/4294967296<2^s:=qyP (by omega) dk
    have qbG:d k*2^s/4294967296<4294967296:=by omega
    have P5:s' k+d k*2^s%4294967296<4294967296:=qyQ (by omega) hq2
    have E1:IntKind.u64.wrap ((d k:Int)*2^s)=((d k*2^s:Nat):Int):=by
     have h1:=wrap_u64 (d k*2^s) hW;rw[<-h1];simp
    have aU:Hid (bits BinOp.or IntKind.u32 (s' k:Int) (IntKind.u64.wrap ((d k:Int)*2^s)%4294967296)=((s' k+d k*2^s%4294967296:Nat):Int)):=by
     show _=_;rw[E1,show((d k*2^s:Nat):Int)%4294967296=((d k*2^s%4294967296:Nat):Int)from(Int.natCast_emod _ _).symm,qgS (s' k) _ (by omega) (Nat.mod_lt _ (by decide)),qyR (by omega) hq2 dk]
    have eP:Hid (IntKind.u64.wrap ((d k:Int)*2^s)/4294967296%4294967296=((d k*2^s/4294967296:Nat):Int)):=by
     show _=_;rw[E1,show((d k*2^s:Nat):Int)/4294967296=((d k*2^s/4294967296:Nat):Int)from(Int.natCast_ediv _ _).symm];exact Int.emod_eq_of_lt (Int.natCast_nonneg _) (Int.ofNat_lt.2 qbG)
    have DZ:=(jw.out.set k _ P5).set (k+1) _ qbG;have uM:=Lib.hid DZ
    have oO:Hid (nv (cK (cK s' k (s' k+d k*2^s%4294967296)) (k+1) (d k*2^s/4294967296)) (k+1+1)=nv d (k+1)*2^s/\cK (cK s' k (s' k+d k*2^s%4294967296)) (k+1) (d k*2^s/4294967296) (k+1)<2^s/\∀i,k+1<i->cK (cK s' k (s' k+d k*2^s%4294967296)) (k+1) (d k*2^s/4294967296) i=0):=by
     refine⟨?_,?_,λi hi=>?_⟩
     ·rw[q9,q9,q9,Nat.add_mul, <-hq1,q9];rw[nV (cK (cK s' k (s' k+d k*2^s%4294967296)) (k+1) (d k*2^s/4294967296)) s' k (λi hi=>by unfold cK;rw[if_neg (by omega),if_neg (by omega)])];rw[show cK (cK s' k (s' k+d k*2^s%4294967296)) (k+1) (d k*2^s/4294967296) k=s' k+d k*2^s%4294967296 by unfold cK;rw[if_neg (by omega),if_pos rfl],show cK (cK s' k (s' k+d k*2^s%4294967296)) (k+1) (d k*2^s/4294967296) (k+1)=d k*2^s/4294967296 by unfold cK;rw[if_pos rfl]];rw[Nat.pow_succ,Nat.mul_right_comm (d k)];exact qyS _ _ _ _
     ·unfold cK;rw[if_pos rfl];exact hhi
     ·unfold cK;rw[if_neg (by omega),if_neg (by omega)];exact wP i (by omega)
    have eD:Hid (Ext w ((wr.setCell ⟨w.heap.size,k,none⟩ (.int .u32 ((s' k+d k*2^s%4294967296:Nat):Int))).setCell ⟨w.heap.size,k+1,none⟩ (.int .u32 ((d k*2^s/4294967296:Nat):Int)))):=(iQ.out.set (p:=⟨w.heap.size,k,none⟩) (Nat.le_refl _) _).set (p:=⟨w.heap.size,k+1,none⟩) (Nat.le_refl _) _;clear hc hq1 hq2 wP hhi qbG P5 E1 DZ hW;go_wp2;rw[aU.out,eP.out];exact⟨⟨k+1,_,by omega,by go_num,uM,oO,eD⟩,by simp[intOf];omega⟩
   ·obtain rfl:k=n:=by omega
    have hval:nv s' (k+1)=x*2^s:=by rw[lI.out.1,HX.out]
    have aS:=JK (M:=M) jw.out.1 (HM.out.new (Nat.le_refl _)) (by unfold maxLen;omega) jw.out.2 (by rw[hval];exact HL.out);rw[hval]at aS;have aO:=Lib.hid aS;clear aS hval;go_wp2_with (fail);refine aO.out.mono ?_;rintro e w2 ⟨u,rfl,hu,rfl⟩;clear aO;go_wp2;go_ret;exact⟨u,rfl,hu,iQ.out⟩
theorem qxu(x y:Nat)(hx:x<4294967296)(hy:y<4294967296):bits BinOp.or .u64 (y:Int) ((x:Int)*4294967296)=((y+x*4294967296:Nat):Int):=by
 have h:=qgT y (x*4294967296) (by omega) (by omega);rw[Nat.or_comm,qm9 x y hy,Nat.add_comm]at h;rw[<-h];simp
theorem qn9(X s:Nat):(X:Int)/2^s%4294967296=((X/2^s%4294967296:Nat):Int):=by
 rw[Int.natCast_emod,Int.natCast_ediv,Int.natCast_pow];rfl
theorem qyT{L R s:Nat}(hs:s<=32):(L+4294967296*(4294967296*R))/2^s%4294967296=L/2^s%4294967296:=by
 obtain⟨t,ht⟩:∃t,32=s+t:=⟨32-s,by omega⟩
 have e0:(4294967296:Nat)=2^s*2^t:=by rw[<-Nat.pow_add, <-ht]
 have e:L+4294967296*(4294967296*R)=L+2^s*(4294967296*(2^t*R)):=by
  have:4294967296*(4294967296*R)=2^s*2^t*(4294967296*R):=by rw[<-e0]
  rw[this,Nat.mul_assoc,Nat.mul_left_comm (2^t)]
 rw[e,Nat.add_mul_div_left _ _ (Nat.pow_pos (by decide)),Nat.add_mul_mod_self_left]
theorem qoa{D:Nat->Nat}{n k s e:Nat}(hD:∀i,i<n->D i<4294967296)(hk:k<n)(hs:s<=32)(he:e=if k+1<n then D (k+1)else 0):nv D n/2^s/4294967296^k%4294967296=(D k+e*4294967296)/2^s%4294967296:=by
 have h1:nv D n/4294967296^k=nv (λi=>D (k+i)) (n-k):=by
  have h2:=wW D k (n-k);rw[show k+(n-k)=n by omega]at h2;rw[h2,Nat.add_mul_div_left _ _ (VT k),Nat.div_eq_of_lt (pO D k λi hi=>hD i (by omega)),Nat.zero_add]
 rw[Nat.div_div_eq_div_mul,Nat.mul_comm, <-Nat.div_div_eq_div_mul,h1];obtain⟨m,hm⟩:∃m,n-k=m+1:=⟨n-k-1,by omega⟩;rw[hm,Q0]
 by_cases h3:k+1<n
 ·obtain⟨q,rfl⟩:∃q,m=q+1:=⟨m-1,by omega⟩;rw[Q0,he,if_pos h3];have:=qyT (L:=D k+D (k+1)*4294967296) (R:=nv (λi=>D (k+(i+1+1))) q) hs;rw[<-this]
  congr 2
  show D (k+0)+4294967296*(D (k+(0+1))+_)=_;rw[Nat.mul_add,Nat.add_zero,Nat.zero_add];omega
 ·obtain rfl:m=0:=by omega
  rw[he,if_neg h3];simp[nv]
theorem qmX{s':Nat->Nat}{k Y z:Nat}(h:nv s' k=Y%4294967296^k)(hz:z=Y/4294967296^k%4294967296):nv (cK s' k z) (k+1)=Y%4294967296^(k+1):=by
 rw[q9,nV (cK s' k z) s' k (λi hi=>by unfold cK;rw[if_neg (by omega)]),h,show cK s' k z k=z by unfold cK;rw[if_pos rfl],hz,Nat.pow_succ,Nat.mod_mul,Nat.mul_comm (4294967296^k)]
theorem qwW{M:Nat->Prop}(v:Value)(x s:Nat)(w:World)(hM:Mb M w)(h:fA M w v x)(hs:s<32):
 Calls Tryz.prog 194 #[v,.int .i64 (s:Int)] w λe w'=>∃u,e=.returned u/\gT M w' u (x/2^s)/\Ext w w':=by
 obtain⟨i0,hi,hz0,hz1,hz2⟩:=info_parts Tryz.EK;obtain⟨n0,d,hr,yn⟩:=h;have mK:=rV d n0;rw[yn]at mK;have aO:=Lib.hid (vK v n0 d w hr);have ic:=Lib.hid hr.2.1;have Mm:=EU d n0;have eu:=hr.1;have HM:=Lib.hid hM;clear hr yn hM
 go_enter Tryz.func194,Tryz.ntmps194
 go_wp2_with (fail);refine aO.out.mono ?_;rintro e w' ⟨v',rfl,lC,rfl⟩;clear aO;obtain⟨a,cap,rfl⟩:=kE lC;generalize tl d n0=n at*;have HD:Hid (∀i,i<n->d i<4294967296):=λi hi=>ic.out i (by omega);have HR:=Lib.hid lC;have HX:=Lib.hid mK;clear lC ic mK
 have t1:max (s:Int) 0=s:=by omega
 have t3:(s:Int)/32=0:=by omega
 have t4:(s:Int)%32=s:=by omega
 by_cases iw:n=0
 ·subst iw
  have Ky:Hid (x=0):=by have:=HX.out;simp[nv]at this;exact this.symm
  go_wp2;go_ret;exact⟨_,rfl,by rw[Ky.out,Nat.zero_div];exact gT.nil M w,Ext.refl _⟩
 ·have qbY:¬(n:Int)<=0:=by omega
  obtain⟨b,o,rfl,hb,hc⟩:=mU HR.out (by omega);have HC:=Lib.hid hc
  have BU:n<=cap/\cap<=9223372036854775807:=by
   rcases HR.out.2.2 with⟨h0,_⟩|⟨_,_,_,hv,hn,hc,_⟩
   ·omega
   ·simp only[Value.slice.injEq,true_and]at hv;obtain⟨_,rfl⟩:=hv;unfold maxLen at hc;omega
  obtain⟨qj0,qj1⟩:=BU
  have qBm:¬cap=0:=by omega
  clear hc
  go_wp2_with (first|(refine wpList_make_full _ rfl _ _ _ rfl w.heap.size 155 i0 (.int .u32 0) 1 Tryz.underlying28 hi hz0 hz1 .i64 .i64 _ _ n rfl rfl ?c4 ?c5 ?c2 ?c3 ?c6 ?_))
  case c2=>rw[hz2];omega
  case c3=>unfold maxLen;omega
  case c4=>go_num
  case c5=>go_num
  case c6=>simp
  intro w1 hown hgrow;have oh:Hid (iP w1 w.heap.size n (λ_=>0)):=⟨ak.Am hown,λ_ _=>(by decide:0<4294967296)⟩;have aL:=Lib.hid (lM hgrow);clear hown hgrow t1 t3 t4;go_wp2
  go_loopw [33] (λi wr=>∃(k:Nat)(s':Nat->Nat),k<=n/\i=.int .i64 k/\Hid (iP wr w.heap.size n s')/\Hid (nv s' k=x/2^s%4294967296^k)/\Hid (Ext w wr)) (λi _=>n-(intOf i).toNat)
  case atStart=>exact⟨0,_,Nat.zero_le _,rfl,oh,(by show _=_;simp[nv,Nat.mod_one]),aL⟩
  case round=>
   clear oh aL;obtain⟨k,s',hk,rfl,jw,lI,iQ⟩:=hrel
   by_cases hlt:k<n
   ·have c0:=HC.out k hlt;rw[<-iQ.out.cell hb]at c0
    have iH:b<wr.heap.size:=by have:=iQ.out.size;omega
    have dk:=HD.out k hlt;have g5:=jw.out.1.cell (i:=k) (by omega);have g4:=jw.out.1.frozen k;have dZ:=jw.out.1.lt;have yl:IntKind.u64.signed=false:=rfl
    by_cases iq:k+1<n
    ·have c1:=HC.out (k+1) iq;rw[<-iQ.out.cell hb]at c1;have dk1:=HD.out (k+1) iq
     have quE:(k:Int)+1<(n:Int):=by omega
     have HZ:Hid (bits BinOp.or IntKind.u64 (d k:Int) ((d (k+1):Int)*4294967296)/2^s%4294967296=(((d k+d (k+1)*4294967296)/2^s%4294967296:Nat):Int)):=by show _=_;rw[qxu _ _ dk1 dk];exact qn9 _ _
     have hzl:(d k+d (k+1)*4294967296)/2^s%4294967296<4294967296:=Nat.mod_lt _ (by decide);have uM:=Lib.hid (jw.out.set k _ hzl);have oO:Hid (nv (cK s' k ((d k+d (k+1)*4294967296)/2^s%4294967296)) (k+1)=x/2^s%4294967296^(k+1)):=qmX lI.out (by rw[<-HX.out];exact(qoa HD.out hlt (by omega) (by rw[if_pos iq])).symm);have eD:Hid (Ext w (wr.setCell ⟨w.heap.size,k,none⟩ (.int .u32 (((d k+d (k+1)*4294967296)/2^s%4294967296:Nat):Int)))):=iQ.out.set (p:=⟨w.heap.size,k,none⟩) (Nat.le_refl _) _;go_wp2;rw[HZ.out];exact⟨⟨k+1,_,by omega,by go_num,uM,oO,eD⟩,by simp[intOf];omega⟩
    ·have quE:¬(k:Int)+1<(n:Int):=by omega
     have HZ:Hid ((d k:Int)/2^s%4294967296=(((d k+0*4294967296)/2^s%4294967296:Nat):Int)):=by show _=_;rw[Nat.zero_mul,Nat.add_zero];exact qn9 _ _
     have hzl:(d k+0*4294967296)/2^s%4294967296<4294967296:=Nat.mod_lt _ (by decide);have uM:=Lib.hid (jw.out.set k _ hzl);have oO:Hid (nv (cK s' k ((d k+0*4294967296)/2^s%4294967296)) (k+1)=x/2^s%4294967296^(k+1)):=qmX lI.out (by rw[<-HX.out];exact(qoa HD.out hlt (by omega) (by rw[if_neg iq])).symm);have eD:Hid (Ext w (wr.setCell ⟨w.heap.size,k,none⟩ (.int .u32 (((d k+0*4294967296)/2^s%4294967296:Nat):Int)))):=iQ.out.set (p:=⟨w.heap.size,k,none⟩) (Nat.le_refl _) _;go_wp2;rw[HZ.out];exact⟨⟨k+1,_,by omega,by go_num,uM,oO,eD⟩,by simp[intOf];omega⟩
   ·obtain rfl:k=n:=by omega
    have hval:nv s' k=x/2^s:=by
     rw[lI.out];refine Nat.mod_eq_of_lt (Nat.lt_of_le_of_lt (Nat.div_le_self _ _) ?_);rw[<-HX.out];exact pO d k HD.out
    have aS:=JK (M:=M) jw.out.1 (HM.out.new (Nat.le_refl _)) (by unfold maxLen;omega) jw.out.2 (by have:=xO _ _ jw.out.2;omega);rw[hval]at aS;have aO:=Lib.hid aS;clear aS hval;go_wp2_with (fail);refine aO.out.mono ?_;rintro e w2 ⟨u,rfl,hu,rfl⟩;clear aO;go_wp2;go_ret;exact⟨u,rfl,hu,iQ.out⟩
end Go.Proofs.YtmcfpnmoklnhoaaGreat
