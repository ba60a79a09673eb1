/- Plain facts on division of numbers by their digits. bits.Div32, bits.LeadingZeros32, natural.Uint64. natural.Uint64; division.estimate. division.subtractMultiple, addBack. natural.Uint64, DivSmall. natural.Shl, Shr by less than 32 bits. -/
import Derived.Test.YtmcfpnmoklnhoaaGreatMm
import Derived.Shelf.Small.Bits
set_option linter.unusedVariables false
set_option maxRecDepth 100000
set_option maxHeartbeats 400000000
set_option linter.unusedSimpArgs false

namespace Go.Proofs.YtmcfpnmoklnhoaaGreat

def qcd (u2 u1 u0 v1 v2:Nat):Nat:=min 4294967295 (((u2*4294967296+u1)*4294967296+u0) / (v1*4294967296+v2))
theorem qjW {u2 u1 u0 v1 v2 q:Nat} (hv:0<v1) (hq:q<=4294967295) (hge:qcd u2 u1 u0 v1 v2<=q) (h:q*(v1*4294967296+v2)<=(u2*4294967296+u1)*4294967296+u0):q=qcd u2 u1 u0 v1 v2:=by
 have h1:q<=((u2*4294967296+u1)*4294967296+u0) / (v1*4294967296+v2):=(Nat.le_div_iff_mul_le (by omega)).2 h;unfold qcd at hge ⊢;exact Nat.le_antisymm (Nat.le_min.2 ⟨hq,h1⟩) hge
theorem qoA {u2 u1 u0 v1 v2 q:Nat} (hv:0<v1) (hge:qcd u2 u1 u0 v1 v2<=q) (h:(u2*4294967296+u1)*4294967296+u0<q*(v1*4294967296+v2)):0<q/\qcd u2 u1 u0 v1 v2<=q - 1:=by
 have h1:((u2*4294967296+u1)*4294967296+u0) / (v1*4294967296+v2)<q:=(Nat.div_lt_iff_lt_mul (by omega)).2 h;unfold qcd at hge ⊢;refine ⟨Nat.lt_of_le_of_lt (Nat.zero_le _) h1,?_⟩;exact Nat.le_trans (Nat.min_le_right _ _) (Nat.le_sub_one_of_lt h1)
theorem qf0 {u2 u1 u0 v1 v2:Nat} (hv:0<v1) (hu:u0<4294967296):qcd u2 u1 u0 v1 v2<=(u2*4294967296+u1) / v1:=by
 rw [Nat.le_div_iff_mul_le hv]
 have h1:qcd u2 u1 u0 v1 v2*(v1*4294967296+v2)<=(u2*4294967296+u1)*4294967296+u0:=by
  refine Nat.le_trans (Nat.mul_le_mul_right _ (Nat.min_le_right _ _)) ?_;exact Nat.div_mul_le_self _ _
 generalize qcd u2 u1 u0 v1 v2=q at *;rw [Nat.mul_add,<- Nat.mul_assoc] at h1;omega
theorem qsH {P V u2 u1 u0 v1 v2 k lp lv : Nat} (hP : P = ((u2 * 4294967296 + u1) * 4294967296 + u0) * 4294967296 ^ k + lp) (hV : V = (v1 * 4294967296 + v2) * 4294967296 ^ k + lv) (hlp : lp < 4294967296 ^ k) (hlv : lv < 4294967296 ^ k) (hv : 0 < v1) (hlt : P < V * 4294967296) :
  P / V<=qcd u2 u1 u0 v1 v2/\qcd u2 u1 u0 v1 v2<=P / V+1:=by
 have hpk:=qeH k
 have hV0:0<V:=by
  rw [hV];have:0<(v1*4294967296+v2)*4294967296 ^ k:=Nat.mul_pos (by omega) hpk;omega
 have hq1:P / V<=4294967295:=by
  have:P / V<4294967296:=(Nat.div_lt_iff_lt_mul hV0).2 (by rw [Nat.mul_comm];exact hlt);omega
 have hqV:P / V*V<=P:=Nat.div_mul_le_self _ _;obtain ⟨U,hU⟩ : ∃ U,(u2*4294967296+u1)*4294967296+u0=U:=⟨_,rfl⟩;obtain ⟨W,hW⟩ : ∃ W,v1*4294967296+v2=W:=⟨_,rfl⟩;rw [hU] at hP;rw [hW] at hV
 have hW0:4294967296<=W:=by omega
 constructor
 ·have h1 : P / V * W <= U := by
   have h2:P / V*W*4294967296 ^ k<(U+1)*4294967296 ^ k:=by
    have h3:P / V*(W*4294967296 ^ k)<=P / V*V:=Nat.mul_le_mul_left _ (by omega);rw [<- Nat.mul_assoc] at h3;rw [Nat.add_mul,Nat.one_mul];omega
   have:=Nat.lt_of_mul_lt_mul_right h2;omega
  have h4:P / V<=U / W:=(Nat.le_div_iff_mul_le (by omega)).2 h1;unfold qcd;rw [hU,hW];exact Nat.le_min.2 ⟨hq1,h4⟩
 ·have he1:qcd u2 u1 u0 v1 v2<=4294967295:=Nat.min_le_left _ _
  have he2:qcd u2 u1 u0 v1 v2*W<=U:=by
   have:qcd u2 u1 u0 v1 v2<=U / W:=by unfold qcd;rw [hU,hW];exact Nat.min_le_right _ _
   exact Nat.le_trans (Nat.mul_le_mul_right _ this) (Nat.div_mul_le_self _ _)
  refine Classical.byContradiction fun hc=>?_;generalize qcd u2 u1 u0 v1 v2=q at *
  have hP2:P<(P / V+1)*V:=by
   have:=Nat.lt_div_mul_add (a:=P) hV0;rw [Nat.add_mul,Nat.one_mul];omega
  have h5:(P / V+1)*V<=(q - 1)*V:=Nat.mul_le_mul_right _ (by omega)
  have h6:(q - 1)*V=q*V - V:=by rw [Nat.sub_mul,Nat.one_mul]
  have h7:q*V=q*W*4294967296 ^ k+q*lv:=by rw [hV,Nat.mul_add,Nat.mul_assoc]
  have h8:q*W*4294967296 ^ k<=U*4294967296 ^ k:=Nat.mul_le_mul_right _ he2;have h9:q*lv<=4294967295*4294967296 ^ k:=Nat.mul_le_mul he1 (by omega);have h10:4294967296*4294967296 ^ k<=W*4294967296 ^ k:=Nat.mul_le_mul_right _ hW0;omega
theorem qoE {P V q:Nat} (hV:0<V) (h1:P / V<=q) (h2:q<=P / V+1):(q*V<=P->q=P / V)/\(P<q*V->q=P / V+1):=by
 have h3:P / V*V<=P:=Nat.div_mul_le_self _ _;refine ⟨fun h=>?_,fun h=>?_⟩
 ·have:q<=P / V:=(Nat.le_div_iff_mul_le hV).2 h;omega
 ·by_cases hq:q=P / V
  ·rw [hq] at h;omega
  ·omega
theorem qe3 {Sp Sv Sr c b p v d low hi r b' x : Nat} (hinv : Sr + d * Sv = Sp + (b + c) * x) (hm : v * d + c = low + hi * 4294967296) (hs : r + low + b = p + b' * 4294967296) :
  Sr+r*x+d*(Sv+v*x)=Sp+p*x+(b'+hi)*(x*4294967296):=by
 have e1:r*x+low*x+b*x=p*x+b'*(x*4294967296):=by
  rw [<- Nat.add_mul,<- Nat.add_mul,hs,Nat.add_mul,Nat.mul_assoc,Nat.mul_comm 4294967296 x]
 have e2:v*d*x+c*x=low*x+hi*(x*4294967296):=by
  rw [<- Nat.add_mul,hm,Nat.add_mul,Nat.mul_assoc,Nat.mul_comm 4294967296 x]
 have e3:d*(Sv+v*x)=d*Sv+v*d*x:=by rw [Nat.mul_add,<- Nat.mul_assoc,Nat.mul_comm d v]
 rw [Nat.add_mul] at hinv ⊢;omega
end Go.Proofs.YtmcfpnmoklnhoaaGreat

namespace Go.Proofs.YtmcfpnmoklnhoaaGreat
open Go.RowKit

theorem wrap_u64 (n:Nat) (h:n<18446744073709551616):IntKind.u64.wrap (n:Int)=n:=by
 exact IntWalk.u64_in _ (by omega)
theorem qpJ (n:Nat) (h:n<18446744073709551616):(BitVec.ofInt IntKind.u64.bits (n:Int)).toNat=n:=by
 simp [IntKind.bits];omega
theorem qib (a b:Nat) (ha:a<18446744073709551616) (hb:b<18446744073709551616):bits BinOp.or .u64 a b=((a ||| b:Nat):Int):=by
 unfold bits;have h1:=qpJ a ha;have h2:=qpJ b hb;simp only [BitVec.toNat_or,h1,h2];rw [wrap_u64];exact Nat.or_lt_two_pow (n:=64) ha hb
theorem qsg (x y:Nat) (hy:y<4294967296):x*4294967296 ||| y=x*4294967296+y:=by
 have:=Nat.two_pow_add_eq_or_of_lt (i:=32) (b:=y) hy x;rw [Nat.mul_comm x];exact this.symm
theorem qtp (x y:Nat) (hx:x<4294967296) (hy:y<4294967296):bits BinOp.or .u64 ((x:Int)*4294967296) (y:Int)=((x*4294967296+y:Nat):Int):=by
 have:=qib (x*4294967296) y (by omega) (by omega);rw [qsg x y hy] at this;rw [<- this];simp
theorem qf5 (hi lo y : Nat) (w : World) (h1 : hi < y) (hl : lo < 4294967296) (hy : y < 4294967296) :
  Calls Tryz.prog 205 #[.int .u32 hi,.int .u32 lo,.int .u32 y] w fun e w'=>
   e = .returned (.tuple #[.int .u32 (((hi*4294967296+lo) / y:Nat):Int),.int .u32 (((hi*4294967296+lo) % y:Nat):Int)])/\w'=w.drew:=by
 have HOR:=Lib.hid (qtp hi lo (by omega) hl);have hsg:IntKind.u64.signed=false:=rfl
 have hy0:((y:Int) == 0)=false:=by simp;omega
 have hy1 : ¬ ((y:Int)<=(hi:Int)):=by omega
 go_enter Tryz.func205,Tryz.ntmps205
 go_wp2;rw [HOR.out];obtain ⟨Z,hZ⟩ : ∃ Z,Z=hi*4294967296+lo:=⟨_,rfl⟩
 have hq:Z / y<4294967296:=by
  rw [Nat.div_lt_iff_lt_mul (by omega),hZ,Nat.mul_comm];have:(hi+1)*4294967296<=y*4294967296:=Nat.mul_le_mul_right _ (by omega);omega
 have hr:Z % y<y:=Nat.mod_lt _ (by omega)
 have hZ64:(Z:Int)<18446744073709551616:=by omega
 rw [<- hZ];have HZ:=Lib.hid hZ;clear HOR hZ;have e1:(Z:Int) / (y:Int)=((Z / y:Nat):Int):=(Int.natCast_ediv Z y).symm;have e2:(Z:Int) % (y:Int)=((Z % y:Nat):Int):=(Int.natCast_emod Z y).symm;have e3:IntKind.u64.wrap (y:Int)=y:=wrap_u64 y (by omega);obtain ⟨q,hq0⟩ : ∃ q,q=Z / y:=⟨_,rfl⟩;obtain ⟨r,hr0⟩ : ∃ r,r=Z % y:=⟨_,rfl⟩;rw [<- hq0] at hq e1;rw [<- hr0] at hr e2;have e4:IntKind.u64.wrap (q:Int)=q:=wrap_u64 q (by omega);have e5:IntKind.u32.wrap (q:Int)=q:=wrap_u32 q hq;have e6:IntKind.u64.wrap (r:Int)=r:=wrap_u64 r (by omega);have e7:IntKind.u32.wrap (r:Int)=r:=wrap_u32 r (by omega);have e8:IntKind.u64.wrap (Z:Int)=Z:=wrap_u64 Z (by omega)
 have hy2 : ¬ (y:Int)=0:=by omega
 have e9:(Z:Int).tmod (y:Int)=r:=by rw [Int.tmod_eq_emod_of_nonneg (by omega)];exact e2
 have HQ0:=Lib.hid hq0;have HR0:=Lib.hid hr0;clear hq0 hr0;refine qad STr 11 (by kernel_rfl) trivial (fun hHeld=>?_);(refine tkB [0,1,2,3,4,5,6,7,8,9,10] ?_;(iterate 11 (refine tk1 (oi:=?_) (v:=?_) (by kernel_rfl) (by first | exact hSn | exact hHeld) ?_ ?_ ?_ ?_ ?_;rotate_left 2;(simp only [xgA,xgB,xgC];rfl);rfl;(intro wS hSw;obtain hT_:=hSw;go_simp;try with_reducible rfl);(exact fun _ _ _ h=>h);(try simp only [Act.put,xgD,xgE,xgF])));refine tkE ?_);((refine qaa 11 (o:=?_) (by kernel_rfl) ?_ ?_;rotate_left 1;(simp only [xgA,xgB,xgC];rfl);intro K hK);go_simp;(refine hK.out _ _ (fun h=>absurd rfl h) ?_);clear hK K;refine qac (by kernel_rfl) ?_ _);go_wp2;exact bodyPost_ret (v:=.tuple #[.int .u32 q,.int .u32 r]) (by simp [results,Tryz.results205,go_sem]) rfl ⟨by rw [<- HZ.out,<- HQ0.out,<- HR0.out],rfl⟩
def Tryz.lz32_ren:Go.Shelf.Ren:=⟨fun | 133=>189 | 128=>179 | n=>n,fun | 46=>156 | 3=>3 | 51=>155 | 53=>108 | 4=>4 | 5=>5 | 9=>9 | n=>n,fun | n=>n⟩
theorem Tryz.lz32:Go.Proofs.Lays.n133 Tryz.prog Tryz.lz32_ren:={
 mixed:=by kernel_rfl
 f128:=Tryz.func179.trans (congrArg some (by kernel_rfl))
 f133:=Tryz.func189.trans (congrArg some (by kernel_rfl))
 t3:=Tryz.underlying3
 a3:=Tryz.isAgg3
 z3:=Tryz.sizeOf3
 v3:=Tryz.zeroValue3
 t4:=Tryz.underlying4
 a4:=Tryz.isAgg4
 z4:=Tryz.sizeOf4
 v4:=Tryz.zeroValue4
 t5:=Tryz.underlying5
 a5:=Tryz.isAgg5
 z5:=Tryz.sizeOf5
 v5:=Tryz.zeroValue5
 t9:=Tryz.underlying9
 a9:=Tryz.isAgg9
 z9:=Tryz.sizeOf9
 v9:=Tryz.zeroValue9
 t46:=Tryz.underlying156
 a46:=Tryz.isAgg156
 z46:=Tryz.sizeOf156
 v46:=Tryz.zeroValue156
 t51:=Tryz.underlying155
 a51:=Tryz.isAgg155
 z51:=Tryz.sizeOf155
 v51:=Tryz.zeroValue155 }
theorem qf6 : ∀ (k x:Nat),x<2 ^ 64->2 ^ k<=x->x<2 ^ (k+1)->Lib.bitLen x=k+1
 | 0,x,_,h1,h2=>by
  have:x=1:=by omega
  subst this;decide
 | k+1,x,h,h1,h2=>by
  have e:2 ^ (k+1)=2*2 ^ k:=by rw [Nat.pow_succ];omega
  have e2:2 ^ (k+1+1)=2*2 ^ (k+1):=by rw [Nat.pow_succ];omega
  have hp:0<2 ^ k:=Nat.pow_pos (by decide);rw [Lib.bitLen_half x (by omega) h,qf6 k (x / 2) (by omega) (by omega) (by omega)];omega
theorem qon (x:Nat) (h0:x≠0) (h:x<4294967296) : ∃ s:Nat,32 - (Lib.bitLen x:Int)=s/\s<32/\2147483648<=x*2 ^ s/\x*2 ^ s<4294967296:=by
 obtain ⟨k,hk1,hk2⟩ : ∃ k,2 ^ k<=x/\x<2 ^ (k+1):=⟨x.log2,Nat.log2_self_le h0,Nat.lt_log2_self⟩
 have hk:k<32:=by
  refine Classical.byContradiction fun hc=>?_;have:2 ^ 32<=2 ^ k:=Nat.pow_le_pow_right (by decide) (by omega);omega
 have hb:=qf6 k x (by omega) hk1 hk2;refine ⟨31 - k,by rw [hb];omega,by omega,?_,?_⟩
 ·have:2 ^ k*2 ^ (31 - k)<=x*2 ^ (31 - k):=Nat.mul_le_mul_right _ hk1;rw [<- Nat.pow_add,show k+(31 - k)=31 by omega] at this;exact this
 ·have:x*2 ^ (31 - k)<2 ^ (k+1)*2 ^ (31 - k):=Nat.mul_lt_mul_of_pos_right hk2 (Nat.pow_pos (by decide));rw [<- Nat.pow_add,show k+1+(31 - k)=32 by omega] at this;exact this
theorem qnt (x : Nat) (w : World) (h0 : x ≠ 0) (h : x < 4294967296) :
  Calls Tryz.prog 189 #[.int .u32 x] w fun e w'=>∃ s:Nat,e = .returned (.int .i64 s)/\(s<32/\2147483648<=x*2 ^ s/\x*2 ^ s<4294967296)/\w'=w:=by
 obtain ⟨s,h1,h2⟩:=qon x h0 h;refine (Go.Proofs.Any.bits_LeadingZeros32 Tryz.lz32 (x:Int) w (by omega) (by omega)).mono ?_;rintro e w' ⟨rfl,rfl⟩;exact ⟨s,by rw [<- h1];rfl,h2,rfl⟩


theorem qjV {X r u0:Nat} (hu:u0<4294967296):(X<=r*4294967296+u0)↔(X / 4294967296<r∨(X / 4294967296=r/\X % 4294967296<=u0)):=by omega
theorem qmQ {q v1 v2 r u2 u1 u0:Nat} (h:q*v1+r=u2*4294967296+u1):(q*(v1*4294967296+v2)<=(u2*4294967296+u1)*4294967296+u0)↔(q*v2<=r*4294967296+u0):=by
 rw [<- h,Nat.mul_add,<- Nat.mul_assoc,Nat.add_mul];omega
theorem qjX {u2 u1 u0 v1 v2:Nat} (hv:0<v1) (hv2:v2<4294967296) (q r o:Nat) (hq:q<=4294967295) (hge:qcd u2 u1 u0 v1 v2<=q) (he:q*v1+(r+o*4294967296)=u2*4294967296+u1) (ho:0<o):q=qcd u2 u1 u0 v1 v2:=by
 refine qjW hv hq hge ((qmQ he).2 ?_);have h3:q*v2<=4294967295*4294967295:=Nat.mul_le_mul hq (by omega);omega
theorem qhX {u2 u1 u0 v1 v2:Nat} (hv:0<v1) (h0:u0<4294967296) (q r:Nat) (hq:q<=4294967295) (hge:qcd u2 u1 u0 v1 v2<=q) (he:q*v1+r=u2*4294967296+u1) (hc:mhi q v2<r∨(mhi q v2=r/\mlo q v2<=u0)):q=qcd u2 u1 u0 v1 v2:=
 qjW hv hq hge ((qmQ he).2 ((qjV h0).2 hc))
theorem qmR {u2 u1 u0 v1 v2:Nat} (hv:0<v1) (h0:u0<4294967296) (q r:Nat) (hge:qcd u2 u1 u0 v1 v2<=q) (he:q*v1+r=u2*4294967296+u1) (hc : ¬ (mhi q v2<r∨(mhi q v2=r/\mlo q v2<=u0))):0<q/\qcd u2 u1 u0 v1 v2<=q - 1/\(q - 1)*v1+(r+v1)=u2*4294967296+u1:=by
 have h3:=qoA (u0:=u0) (v2:=v2) hv hge (Nat.lt_of_not_le fun h=>hc ((qjV h0).1 ((qmQ he).1 h)));refine ⟨h3.1,h3.2,?_⟩;obtain ⟨p,rfl⟩ : ∃ p,q=p+1:=⟨q - 1,by omega⟩;rw [Nat.add_sub_cancel];rw [Nat.add_mul,Nat.one_mul] at he;omega
theorem qjY (u2 u1 v1:Nat) (h2:u2<v1) (h1:u1<4294967296) : ∃ q0 r0,q0=(u2*4294967296+u1) / v1/\r0=(u2*4294967296+u1) % v1/\q0<4294967296/\r0<v1/\Hid (q0*v1+(r0+0*4294967296)=u2*4294967296+u1):=by
 refine ⟨_,_,rfl,rfl,?_,Nat.mod_lt _ (by omega),?_⟩
 ·refine Nat.div_lt_of_lt_mul ?_;have:(u2+1)*4294967296<=v1*4294967296:=Nat.mul_le_mul_right _ (by omega);omega
 ·show _=_;rw [Nat.zero_mul,Nat.add_zero];exact Nat.div_add_mod' _ _
theorem qmU (u2 u1 u0 v1 v2 : Nat) (w : World) (h2 : u2 = v1) (h1 : u1 < 4294967296) (h0 : u0 < 4294967296) (hv : 0 < v1) (hv1 : v1 < 4294967296) (hv2 : v2 < 4294967296) :
  Calls Tryz.prog 191 #[.int .u32 u2,.int .u32 u1,.int .u32 u0,.int .u32 v1,.int .u32 v2] w fun e w'=>e = .returned (.int .u32 (qcd u2 u1 u0 v1 v2:Nat))/\Ext w w':=by
 have HST:Hid (∀ q r o:Nat,q<=4294967295->qcd u2 u1 u0 v1 v2<=q->q*v1+(r+o*4294967296)=u2*4294967296+u1->0<o->q=qcd u2 u1 u0 v1 v2):=qjX hv hv2;have HBR:Hid (∀ q r:Nat,q<=4294967295->qcd u2 u1 u0 v1 v2<=q->q*v1+r=u2*4294967296+u1->(mhi q v2<r∨(mhi q v2=r/\mlo q v2<=u0))->q=qcd u2 u1 u0 v1 v2):=qhX hv h0;have HNX:Hid (∀ q r:Nat,qcd u2 u1 u0 v1 v2<=q->q*v1+r=u2*4294967296+u1 -> ¬ (mhi q v2<r∨(mhi q v2=r/\mlo q v2<=u0))->0<q/\qcd u2 u1 u0 v1 v2<=q - 1/\(q - 1)*v1+(r+v1)=u2*4294967296+u1):=qmR hv h0;have HL2:=Lib.hid (qf0 (u2:=u2) (u1:=u1) (v2:=v2) hv h0);have HL3:Hid (qcd u2 u1 u0 v1 v2<=4294967295):=Nat.min_le_left _ _;generalize hE:qcd u2 u1 u0 v1 v2=E at *;clear hE
 obtain rfl:u2=v1:=by omega
 have CTR:=Lib.hid (qa5 u1 u2 0 w h1 hv1 (by omega))
 have ha:alo u1 u2 0+ahi u1 u2 0*4294967296=u1+u2:=by unfold alo ahi;omega
 have ha1:alo u1 u2 0<4294967296:=qfD _ _ _
 have ha2:ahi u1 u2 0<=1:=by unfold ahi;omega
 go_enter Tryz.func191,Tryz.ntmps191
 go_wp2_with (fail);refine CTR.out.mono ?_;rintro e w1 ⟨rfl,rfl⟩;generalize alo u1 u2 0=r0 at *;generalize ahi u1 u2 0=o0 at *
 have HI:Hid (4294967295*u2+(r0+o0*4294967296)=u2*4294967296+u1):=by show _=_;omega
 go_wp2
 go_loopw [11,12,13] (fun q r o wr=>∃ (q' r' o':Nat),q = .int .u32 q'/\r = .int .u32 r'/\o = .int .u32 o'/\q'<=4294967295/\r'<4294967296/\o'<=1/\Hid (E<=q')/\Hid (q'*u2+(r'+o'*4294967296)=u2*4294967296+u1)/\Hid (Ext w wr)) (fun q _ _ _=>(intOf q).toNat)
 case atStart=>exact ⟨4294967295,r0,o0,rfl,rfl,rfl,Nat.le_refl _,ha1,ha2,HL3,HI,Ext.refl _⟩
 case round=>
  obtain ⟨q',r',o',rfl,rfl,rfl,hq',hr',ho',HGE,HEQ,HEX⟩:=hrel
  by_cases ho:o'=0
  ·subst ho
   have HEQ2:Hid (q'*u2+r'=u2*4294967296+u1):=by have:=HEQ.out;show _=_;omega
   have CM:=Lib.hid (qdh q' v2 wr (by omega) hv2);have hml:=qhH q' v2;have hmh:=qpw q' v2 (by omega) hv2;go_wp2_with (fail);refine CM.out.mono ?_;rintro e w2 ⟨rfl,rfl⟩;have HB:=Lib.hid (HBR.out q' r' hq' HGE.out HEQ2.out);have HN:=Lib.hid (HNX.out q' r' HGE.out HEQ2.out);generalize mhi q' v2=mh at *;generalize mlo q' v2=ml at *;clear CM HEQ HBR HNX HST
   by_cases h3:mh<r'
   ·have hF:q'=E:=HB.out (.inl h3);subst hF
    have h3':(mh:Int)<(r':Int):=by omega
    go_wp2;go_ret;exact ⟨rfl,HEX.out⟩
   ·have h3' : ¬ (mh:Int)<(r':Int):=by omega
    by_cases h4:mh=r'/\ml<=u0
    ·obtain ⟨rfl,h5⟩:=h4;have hF:q'=E:=HB.out (.inr ⟨rfl,h5⟩);subst hF
     have h5':(ml:Int)<=(u0:Int):=by omega
     go_wp2;go_ret;exact ⟨rfl,HEX.out⟩
    ·obtain ⟨hq0,HE2,HQ2⟩:=HN.out (fun h=>h.elim h3 h4);have HE2:=Lib.hid HE2;have HQ2:=Lib.hid HQ2;have CA:=Lib.hid (qa5 r' u2 0 wr hr' hv1 (by omega))
     have ha:alo r' u2 0+ahi r' u2 0*4294967296=r'+u2:=by unfold alo ahi;omega
     have ha1:alo r' u2 0<4294967296:=qfD _ _ _
     have ha2:ahi r' u2 0<=1:=by unfold ahi;omega
     have HQ3:Hid ((q' - 1)*u2+(alo r' u2 0+ahi r' u2 0*4294967296)=u2*4294967296+u1):=by show _=_;rw [ha];exact HQ2.out
     generalize alo r' u2 0=rn at *;generalize ahi r' u2 0=on at *
     have hqi:((q':Int) - 1)=((q' - 1:Nat):Int):=by omega
     have hw:IntKind.u32.wrap ((q':Int) - 1)=(q':Int) - 1:=by rw [hqi];exact wrap_u32 _ (by omega)
     by_cases h6:mh=r'
     ·subst h6
      have h5' : ¬ (ml:Int)<=(u0:Int):=by have : ¬ ml<=u0:=fun h=>h4 ⟨rfl,h⟩;omega
      clear h4 HB HN ha HQ2;go_wp2_with (fail);refine CA.out.mono ?_;rintro e w3 ⟨rfl,rfl⟩;go_wp2
      go_roundw
      case rel=>exact ⟨q' - 1,rn,on,by rw [<- hqi],rfl,rfl,by omega,ha1,ha2,HE2,HQ3,HEX⟩
      case measure=>simp [intOf];omega
     ·have h6':((mh:Int) == (r':Int))=false:=by simp;omega
      clear h4 HB HN ha HQ2;go_wp2_with (fail);refine CA.out.mono ?_;rintro e w3 ⟨rfl,rfl⟩;go_wp2
      go_roundw
      case rel=>exact ⟨q' - 1,rn,on,by rw [<- hqi],rfl,rfl,by omega,ha1,ha2,HE2,HQ3,HEX⟩
      case measure=>simp [intOf];omega
  ·have ho1:o'=1:=by omega
   have hF:=HST.out q' r' o' hq' HGE.out HEQ.out (by omega);subst hF ho1;clear HEQ HGE;go_wp2;go_ret;exact ⟨rfl,HEX.out⟩
theorem qmT (u2 u1 u0 v1 v2 : Nat) (w : World) (h2 : u2 < v1) (h1 : u1 < 4294967296) (h0 : u0 < 4294967296) (hv : 0 < v1) (hv1 : v1 < 4294967296) (hv2 : v2 < 4294967296) :
  Calls Tryz.prog 191 #[.int .u32 u2,.int .u32 u1,.int .u32 u0,.int .u32 v1,.int .u32 v2] w fun e w'=>e = .returned (.int .u32 (qcd u2 u1 u0 v1 v2:Nat))/\Ext w w':=by
 have HST:Hid (∀ q r o:Nat,q<=4294967295->qcd u2 u1 u0 v1 v2<=q->q*v1+(r+o*4294967296)=u2*4294967296+u1->0<o->q=qcd u2 u1 u0 v1 v2):=qjX hv hv2;have HBR:Hid (∀ q r:Nat,q<=4294967295->qcd u2 u1 u0 v1 v2<=q->q*v1+r=u2*4294967296+u1->(mhi q v2<r∨(mhi q v2=r/\mlo q v2<=u0))->q=qcd u2 u1 u0 v1 v2):=qhX hv h0;have HNX:Hid (∀ q r:Nat,qcd u2 u1 u0 v1 v2<=q->q*v1+r=u2*4294967296+u1 -> ¬ (mhi q v2<r∨(mhi q v2=r/\mlo q v2<=u0))->0<q/\qcd u2 u1 u0 v1 v2<=q - 1/\(q - 1)*v1+(r+v1)=u2*4294967296+u1):=qmR hv h0;have hl2:=qf0 (u2:=u2) (u1:=u1) (v2:=v2) hv h0;have HL3:Hid (qcd u2 u1 u0 v1 v2<=4294967295):=Nat.min_le_left _ _;generalize hE:qcd u2 u1 u0 v1 v2=E at *;clear hE;obtain ⟨q0,r0,hq0,hr0,hq,hm,HI⟩:=qjY u2 u1 v1 h2 h1;have ctr:=qf5 u2 u1 v1 w h2 h1 hv1;rw [<- hq0,<- hr0] at ctr;rw [<- hq0] at hl2;have HL2:=Lib.hid hl2;have CTR:=Lib.hid ctr
 have hc' : ¬ ((v1:Int)<=(u2:Int)):=by omega
 clear ctr hq0 hr0 hl2
 go_enter Tryz.func191,Tryz.ntmps191
 go_wp2_with (fail);refine CTR.out.mono ?_;rintro e w1 ⟨rfl,rfl⟩;go_wp2
 go_loopw [11,12,13] (fun q r o wr=>∃ (q' r' o':Nat),q = .int .u32 q'/\r = .int .u32 r'/\o = .int .u32 o'/\q'<=4294967295/\r'<4294967296/\o'<=1/\Hid (E<=q')/\Hid (q'*v1+(r'+o'*4294967296)=u2*4294967296+u1)/\Hid (Ext w wr)) (fun q _ _ _=>(intOf q).toNat)
 case atStart=>exact ⟨q0,r0,0,rfl,rfl,rfl,by omega,by omega,by omega,HL2,HI,(Ext.refl w).drew⟩
 case round=>
  obtain ⟨q',r',o',rfl,rfl,rfl,hq',hr',ho',HGE,HEQ,HEX⟩:=hrel
  by_cases ho:o'=0
  ·subst ho
   have HEQ2:Hid (q'*v1+r'=u2*4294967296+u1):=by have:=HEQ.out;show _=_;omega
   have CM:=Lib.hid (qdh q' v2 wr (by omega) hv2);have hml:=qhH q' v2;have hmh:=qpw q' v2 (by omega) hv2;go_wp2_with (fail);refine CM.out.mono ?_;rintro e w2 ⟨rfl,rfl⟩;have HB:=Lib.hid (HBR.out q' r' hq' HGE.out HEQ2.out);have HN:=Lib.hid (HNX.out q' r' HGE.out HEQ2.out);generalize mhi q' v2=mh at *;generalize mlo q' v2=ml at *;clear CM HEQ HBR HNX HST
   by_cases h3:mh<r'
   ·have hF:q'=E:=HB.out (.inl h3);subst hF
    have h3':(mh:Int)<(r':Int):=by omega
    go_wp2;go_ret;exact ⟨rfl,HEX.out⟩
   ·have h3' : ¬ (mh:Int)<(r':Int):=by omega
    by_cases h4:mh=r'/\ml<=u0
    ·obtain ⟨rfl,h5⟩:=h4;have hF:q'=E:=HB.out (.inr ⟨rfl,h5⟩);subst hF
     have h5':(ml:Int)<=(u0:Int):=by omega
     go_wp2;go_ret;exact ⟨rfl,HEX.out⟩
    ·obtain ⟨hq0,HE2,HQ2⟩:=HN.out (fun h=>h.elim h3 h4);have HE2:=Lib.hid HE2;have HQ2:=Lib.hid HQ2;have CA:=Lib.hid (qa5 r' v1 0 wr hr' hv1 (by omega))
     have ha:alo r' v1 0+ahi r' v1 0*4294967296=r'+v1:=by unfold alo ahi;omega
     have ha1:alo r' v1 0<4294967296:=qfD _ _ _
     have ha2:ahi r' v1 0<=1:=by unfold ahi;omega
     have HQ3:Hid ((q' - 1)*v1+(alo r' v1 0+ahi r' v1 0*4294967296)=u2*4294967296+u1):=by show _=_;rw [ha];exact HQ2.out
     generalize alo r' v1 0=rn at *;generalize ahi r' v1 0=on at *
     have hqi:((q':Int) - 1)=((q' - 1:Nat):Int):=by omega
     have hw:IntKind.u32.wrap ((q':Int) - 1)=(q':Int) - 1:=by rw [hqi];exact wrap_u32 _ (by omega)
     by_cases h6:mh=r'
     ·subst h6
      have h5' : ¬ (ml:Int)<=(u0:Int):=by have : ¬ ml<=u0:=fun h=>h4 ⟨rfl,h⟩;omega
      clear h4 HB HN ha HQ2;go_wp2_with (fail);refine CA.out.mono ?_;rintro e w3 ⟨rfl,rfl⟩;go_wp2
      go_roundw
      case rel=>exact ⟨q' - 1,rn,on,by rw [<- hqi],rfl,rfl,by omega,ha1,ha2,HE2,HQ3,HEX⟩
      case measure=>simp [intOf];omega
     ·have h6':((mh:Int) == (r':Int))=false:=by simp;omega
      clear h4 HB HN ha HQ2;go_wp2_with (fail);refine CA.out.mono ?_;rintro e w3 ⟨rfl,rfl⟩;go_wp2
      go_roundw
      case rel=>exact ⟨q' - 1,rn,on,by rw [<- hqi],rfl,rfl,by omega,ha1,ha2,HE2,HQ3,HEX⟩
      case measure=>simp [intOf];omega
  ·have ho1:o'=1:=by omega
   have hF:=HST.out q' r' o' hq' HGE.out HEQ.out (by omega);subst hF ho1;clear HEQ HGE;go_wp2;go_ret;exact ⟨rfl,HEX.out⟩
theorem qiQ (u2 u1 u0 v1 v2 : Nat) (w : World) (h2 : u2 <= v1) (h1 : u1 < 4294967296) (h0 : u0 < 4294967296) (hv : 0 < v1) (hv1 : v1 < 4294967296) (hv2 : v2 < 4294967296) :
  Calls Tryz.prog 191 #[.int .u32 u2,.int .u32 u1,.int .u32 u0,.int .u32 v1,.int .u32 v2] w fun e w'=>e = .returned (.int .u32 (qcd u2 u1 u0 v1 v2:Nat))/\Ext w w':=by
 by_cases h:u2=v1
 ·exact qmU u2 u1 u0 v1 v2 w h h1 h0 hv hv1 hv2
 ·exact qmT u2 u1 u0 v1 v2 w (by omega) h1 h0 hv hv1 hv2


theorem qa7 (d:Nat->Nat) (n:Nat):nv d (n+1)=nv d n+d n*4294967296 ^ n:=rfl
theorem qkm {y d c:Nat} (hy:y<4294967296) (hd:d<4294967296) (hc:c<4294967296):y*d+c=alo (mlo y d) c 0+(mhi y d+ahi (mlo y d) c 0)*4294967296/\mhi y d+ahi (mlo y d) c 0<4294967296:=by
 have h1:y*d<=4294967295*4294967295:=Nat.mul_le_mul (by omega) (by omega);unfold alo ahi mlo mhi;omega
theorem qo9 {p l b:Nat} (hp:p<4294967296) (hl:l<4294967296) (hb:b<=1):slo p l b+l+b=p+qcD p l b*4294967296/\slo p l b<4294967296/\qcD p l b<=1:=by
 unfold slo qcD
 split <;> omega
structure qnH (w:World) (g T off j:Nat) (s:Nat->Nat) (wr:World) (s':Nat->Nat):Prop where
 dg:qcW wr g T s'
 same : ∀ i,i<off∨off+j<=i->s' i=s i
 gr:w.grownBy wr (some g)
theorem qnH.set {w wr:World} {g T off j:Nat} {s s':Nat->Nat} (h:qnH w g T off j s wr s') (u:Nat) (hu:u<4294967296):qnH w g T off (j+1) s (wr.setCell ⟨g,off+j,none⟩ (.int .u32 u)) (qa2 s' (off+j) u):=
 ⟨h.dg.set (off+j) u hu,fun i hi=>by unfold qa2;rw [if_neg (by omega)];exact h.same i (by omega),qfq h.gr _⟩
theorem qgz (s':Nat->Nat) (off j u:Nat):nv (fun i=>qa2 s' (off+j) u (off+i)) (j+1)=nv (fun i=>s' (off+i)) j+u*4294967296 ^ j:=by
 rw [qa7]
 congr 1
 ·exact qaI _ _ _ fun i hi=>by unfold qa2;rw [if_neg (by omega)]
 ·unfold qa2;rw [if_pos rfl]
theorem qmc {M : Nat -> Prop} {w wr : World} {g : Nat} {a : Option Addr} {n c : Nat} {d : Nat -> Nat} (h : qbr M w (.slice a n c) n d) (hne : ∀ p, a = some p -> p.block ≠ g) (hg : w.grownBy wr (some g)) (j : Nat) (hj : j < n) :
  ∃ b o,a=some ⟨b,o,none⟩/\b<wr.heap.size/\wr.cell? ⟨b,o+j,none⟩=some (.int .u32 (d j)):=by
 obtain ⟨b,o,rfl,hb,hc⟩:=qaz h (by omega);have hbg:b≠g:=hne _ rfl;exact ⟨b,o,rfl,Nat.lt_of_lt_of_le hb hg.size,by rw [World.cell?_of_block (w:=w) (hg.block b hb (by simpa using hbg)),hc j hj]⟩
theorem qmS {M : Nat -> Prop} (g off n cz T : Nat) (a2 : Option Addr) (c2 d : Nat) (s V : Nat -> Nat) (w : World) (hB : qcW w g T s) (hT : off + n + 1 <= T) (h' : qbr M w (.slice a2 n c2) n V) (hne : ∀ p, a2 = some p -> p.block ≠ g) (hd : d < 4294967296) (hcz : n + 1 <= cz) :
  Calls Tryz.prog 192 #[.slice (some ⟨g,off,none⟩) (n+1) cz,.slice a2 n c2,.int .u32 d] w fun q w'=>∃ (b:Bool) (s':Nat->Nat),q = .returned (.bool b)/\qnH w g T off (n+1) s w' s' /\
   nv (fun i=>s' (off+i)) (n+1)+d*nv V n=nv (fun i=>s (off+i)) (n+1)+(if b then 1 else 0)*4294967296 ^ (n+1):=by
 have hnL:=h'.1;have HV:=Lib.hid h'.2.1;have HR:=Lib.hid h';have HNE:=Lib.hid hne;have HS:=Lib.hid hB.2;have HS0:Hid (qnH w g T off 0 s w s):=⟨hB,fun _ _=>rfl,qcm _ _⟩;clear h' hne hB
 go_enter Tryz.func192,Tryz.ntmps192
 go_wp2
 go_loopw [17,7,8] (fun i c b wr=>∃ (j c' b':Nat) (s':Nat->Nat),j<=n/\i = .int .i64 j/\c = .int .u32 c'/\b = .int .u32 b'/\c'<4294967296/\b'<=1/\Hid (qnH w g T off j s wr s')/\Hid (nv (fun i=>s' (off+i)) j+d*nv V j=nv (fun i=>s (off+i)) j+(b'+c')*4294967296 ^ j)) (fun i _ _ _=>n - (intOf i).toNat)
 case atStart=>exact ⟨0,0,0,s,Nat.zero_le _,rfl,rfl,rfl,by omega,by omega,HS0,(by show _=_;simp [nv])⟩
 case round=>
  clear HS0;obtain ⟨j,c,b,s',hj,rfl,rfl,rfl,hc,hb,HSS,HEQ⟩:=hrel;have hgr:=HSS.out.gr;have hglt:=HSS.out.dg.1.lt
  by_cases hlt:j<n
  ·obtain ⟨vb,vo,rfl,hvb,hvc⟩:=qmc HR.out HNE.out hgr j hlt
   have g3:wr.cell? ⟨g,off+j,none⟩=some (.int .u32 (s (off+j))):=by rw [HSS.out.dg.1.cell (by omega),HSS.out.same _ (by omega)]
   have g4:=HSS.out.dg.1.frozen (off+j);have hyl:=HV.out j hlt;have hpl:=HS.out (off+j) (by omega);obtain ⟨hm,hcl⟩:=qkm (c:=c) hyl hd hc;have hlow:=qfD (mlo (V j) d) c 0
   have hover:ahi (mlo (V j) d) c 0<=1:=by have:=qhH (V j) d;unfold ahi;omega
   have CM:=Lib.hid (qdh (V j) d wr hyl hd);have CA:=Lib.hid (qa5 (mlo (V j) d) c 0 wr (qhH _ _) hc (by omega));obtain ⟨hs1,hs2,hs3⟩:=qo9 (l:=alo (mlo (V j) d) c 0) hpl hlow hb;have CS:=Lib.hid (qeg (s (off+j)) (alo (mlo (V j) d) c 0) b wr hpl hlow (by omega))
   have HEQ2:Hid (nv (fun i=>qa2 s' (off+j) (slo (s (off+j)) (alo (mlo (V j) d) c 0) b) (off+i)) (j+1)+d*nv V (j+1)=nv (fun i=>s (off+i)) (j+1)+(qcD (s (off+j)) (alo (mlo (V j) d) c 0) b+(mhi (V j) d+ahi (mlo (V j) d) c 0))*4294967296 ^ (j+1)):=by
    show _=_;rw [qgz,qa7 V,qa7 (fun i=>s (off+i)),Nat.pow_succ];exact qe3 HEQ.out hm hs1
   have HSN:=Lib.hid (HSS.out.set _ hs2)
   have hmw:IntKind.u32.wrap (((mhi (V j) d:Nat):Int)+((ahi (mlo (V j) d) c 0:Nat):Int))=((mhi (V j) d:Nat):Int)+((ahi (mlo (V j) d) c 0:Nat):Int):=by
    have:=wrap_u32 (mhi (V j) d+ahi (mlo (V j) d) c 0) hcl;simpa using this
   clear hm hs1;go_wp2_with (fail);refine CM.out.mono ?_;rintro e w2 ⟨rfl,rfl⟩;go_wp2_with (fail);refine CA.out.mono ?_;rintro e w3 ⟨rfl,rfl⟩;clear CM CA;go_wp2_with (fail);refine CS.out.mono ?_;rintro e w4 ⟨rfl,rfl⟩;generalize slo (s (off+j)) (alo (mlo (V j) d) c 0) b=r at *;generalize qcD (s (off+j)) (alo (mlo (V j) d) c 0) b=b2 at *;generalize ahi (mlo (V j) d) c 0=ov at *;generalize mhi (V j) d=mh at *;clear CS hgr;go_wp2
   go_roundw
   case rel=>exact ⟨j+1,mh+ov,b2,qa2 s' (off+j) r,by omega,by go_num,by simp,rfl,hcl,hs3,HSN,HEQ2⟩
   case measure=>simp [intOf];omega
  ·obtain rfl:j=n:=by omega
   have g3:wr.cell? ⟨g,off+j,none⟩=some (.int .u32 (s (off+j))):=by rw [HSS.out.dg.1.cell (by omega),HSS.out.same _ (by omega)]
   have g4:=HSS.out.dg.1.frozen (off+j);have hpl:=HS.out (off+j) (by omega);obtain ⟨hs1,hs2,hs3⟩:=qo9 (l:=c) hpl hc hb;have CS:=Lib.hid (qeg (s (off+j)) c b wr hpl hc (by omega))
   have HEQ2:Hid (nv (fun i=>qa2 s' (off+j) (slo (s (off+j)) c b) (off+i)) (j+1)+d*nv V j=nv (fun i=>s (off+i)) (j+1)+qcD (s (off+j)) c b*4294967296 ^ (j+1)):=by
    show _=_;rw [qgz,qa7 (fun i=>s (off+i)),Nat.pow_succ];have:=qe3 (v:=0) (low:=c) (hi:=0) HEQ.out (by omega) hs1;simpa using this
   have HSN:=Lib.hid (HSS.out.set _ hs2)
   have hcz':(j:Int)<((j+1:Nat):Int):=by omega
   clear hs1 hgr;go_wp2_with (fail);refine CS.out.mono ?_;rintro e w4 ⟨rfl,rfl⟩;generalize slo (s (off+j)) c b=r at *;generalize qcD (s (off+j)) c b=b2 at *;clear CS
   have HF:Hid (∃ (bb:Bool) (s':Nat->Nat),Ending.returned (.bool (((b2:Nat):Int) != 0)) = .returned (.bool bb)/\qnH w g T off (j+1) s (wr.setCell ⟨g,off+j,none⟩ (.int .u32 r)) s'/\nv (fun i=>s' (off+i)) (j+1)+d*nv V j=nv (fun i=>s (off+i)) (j+1)+(if bb then 1 else 0)*4294967296 ^ (j+1)):=by
    refine ⟨_,_,rfl,HSN.out,?_⟩;have:=HEQ2.out
    have h01:b2=0∨b2=1:=by omega
    rcases h01 with rfl | rfl
    ·simpa using this
    ·simpa using this
   clear HEQ2 HSN;go_wp2;go_ret;exact HF.out
theorem qid {Sp Sv Sr c p v r c' x:Nat} (hinv:Sr+c*x=Sp+Sv) (h:r+c'*4294967296=p+v+c):Sr+r*x+c'*(x*4294967296)=Sp+p*x+(Sv+v*x):=by
 have e:r*x+c'*(x*4294967296)=p*x+v*x+c*x:=by
  rw [Nat.mul_comm x 4294967296,<- Nat.mul_assoc,<- Nat.add_mul,h,Nat.add_mul,Nat.add_mul]
 omega
def qnD (w : World) (g off n T : Nat) (s V : Nat -> Nat) (q : Ending) (w' : World) : Prop := ∃ (k : Nat) (s' : Nat -> Nat), q = .returned (.tuple #[]) /\ qnH w g T off (n + 1) s w' s' /\
   nv (fun i=>s' (off+i)) (n+1)+k*4294967296 ^ (n+1)=nv (fun i=>s (off+i)) (n+1)+nv V n
theorem qkM {M : Nat -> Prop} (g off n cz T : Nat) (a2 : Option Addr) (c2 : Nat) (s V : Nat -> Nat) (w : World) (hB : qcW w g T s) (hT : off + n + 1 <= T) (h' : qbr M w (.slice a2 n c2) n V) (hne : ∀ p, a2 = some p -> p.block ≠ g) (hcz : n + 1 <= cz) :
  Calls Tryz.prog 193 #[.slice (some ⟨g,off,none⟩) (n+1) cz,.slice a2 n c2] w (qnD w g off n T s V):=by
 have hnL:=h'.1;have HV:=Lib.hid h'.2.1;have HR:=Lib.hid h';have HNE:=Lib.hid hne;have HS:=Lib.hid hB.2;have HS0:Hid (qnH w g T off 0 s w s):=⟨hB,fun _ _=>rfl,qcm _ _⟩;clear h' hne hB
 go_enter Tryz.func193,Tryz.ntmps193
 go_wp2
 go_loopw [9,4] (fun i c wr=>∃ (j c':Nat) (s':Nat->Nat),j<=n/\i = .int .i64 j/\c = .int .u32 c'/\c'<=1/\Hid (qnH w g T off j s wr s')/\Hid (nv (fun i=>s' (off+i)) j+c'*4294967296 ^ j=nv (fun i=>s (off+i)) j+nv V j)) (fun i _ _=>n - (intOf i).toNat)
 case atStart=>exact ⟨0,0,s,Nat.zero_le _,rfl,rfl,by omega,HS0,(by show _=_;simp [nv])⟩
 case round=>
  clear HS0;obtain ⟨j,c,s',hj,rfl,rfl,hc,HSS,HEQ⟩:=hrel;have hgr:=HSS.out.gr;have hglt:=HSS.out.dg.1.lt
  by_cases hlt:j<n
  ·obtain ⟨vb,vo,rfl,hvb,hvc⟩:=qmc HR.out HNE.out hgr j hlt
   have g3:wr.cell? ⟨g,off+j,none⟩=some (.int .u32 (s (off+j))):=by rw [HSS.out.dg.1.cell (by omega),HSS.out.same _ (by omega)]
   have g4:=HSS.out.dg.1.frozen (off+j);have hyl:=HV.out j hlt;have hpl:=HS.out (off+j) (by omega)
   have hs1:alo (s (off+j)) (V j) c+ahi (s (off+j)) (V j) c*4294967296=s (off+j)+V j+c:=by unfold alo ahi;omega
   have hs2:=qfD (s (off+j)) (V j) c
   have hs3:ahi (s (off+j)) (V j) c<=1:=by unfold ahi;omega
   have CA:=Lib.hid (qa5 (s (off+j)) (V j) c wr hpl hyl (by omega))
   have HEQ2:Hid (nv (fun i=>qa2 s' (off+j) (alo (s (off+j)) (V j) c) (off+i)) (j+1)+ahi (s (off+j)) (V j) c*4294967296 ^ (j+1)=nv (fun i=>s (off+i)) (j+1)+nv V (j+1)):=by
    show _=_;rw [qgz,qa7 V,qa7 (fun i=>s (off+i)),Nat.pow_succ];exact qid HEQ.out hs1
   have HSN:=Lib.hid (HSS.out.set _ hs2);clear hs1;go_wp2_with (fail);refine CA.out.mono ?_;rintro e w3 ⟨rfl,rfl⟩;generalize alo (s (off+j)) (V j) c=r at *;generalize ahi (s (off+j)) (V j) c=c3 at *;clear CA hgr;go_wp2
   go_roundw
   case rel=>exact ⟨j+1,c3,qa2 s' (off+j) r,by omega,by go_num,rfl,hs3,HSN,HEQ2⟩
   case measure=>simp [intOf];omega
  ·obtain rfl:j=n:=by omega
   have g3:wr.cell? ⟨g,off+j,none⟩=some (.int .u32 (s (off+j))):=by rw [HSS.out.dg.1.cell (by omega),HSS.out.same _ (by omega)]
   have g4:=HSS.out.dg.1.frozen (off+j);have hpl:=HS.out (off+j) (by omega)
   have hcz':(j:Int)<((j+1:Nat):Int):=by omega
   obtain ⟨r,hr⟩ : ∃ r,r=(s (off+j)+c) % 4294967296:=⟨_,rfl⟩
   have hs2:r<4294967296:=by omega
   have hw:IntKind.u32.wrap ((s (off+j):Int)+(c:Int))=r:=by
    rw [IntKind.wrap_u32];omega
   have hw2:((s (off+j):Int)+(c:Int)) % 4294967296=r:=by omega
   have HF:Hid (qnD w g off j T s V (.returned (.tuple #[])) (wr.setCell ⟨g,off+j,none⟩ (.int .u32 r))):=by
    refine ⟨(s (off+j)+c) / 4294967296,_,rfl,HSS.out.set r hs2,?_⟩;rw [qgz,qa7 (fun i=>s (off+i)),Nat.pow_succ];have:=qid (v:=0) (p:=s (off+j)) (r:=r) (c':=(s (off+j)+c) / 4294967296) HEQ.out (by omega);simpa using this
   clear hr hgr;go_wp2
   go_end0
   exact HF.out


theorem qmZ {N Q r D q r' dd:Nat} (h:N=dd*Q+r) (hq:q*dd+r'=r*4294967296+D):D+4294967296*N=dd*(q+4294967296*Q)+r':=by
 subst h;rw [Nat.mul_add,Nat.mul_add,Nat.mul_comm dd q,Nat.mul_left_comm dd 4294967296 Q];omega
def qny (M:Nat->Prop) (w:World) (x dd:Nat) (e:Ending) (w':World):Prop:=∃ u,e = .returned (.tuple #[u,.int .u32 (x % dd:Nat),.bool true])/\qcY M w' u (x / dd)/\Ext w w'
theorem qhF {M : Nat -> Prop} (v : Value) (x dd : Nat) (w : World) (hM : Mb M w) (h : qcc M w v x) (h0 : 0 < dd) (hd : dd < 4294967296) :
  Calls Tryz.prog 188 #[v,.int .u32 dd] w (qny M w x dd):=by
 obtain ⟨i0,hi,hz0,hz1,hz2⟩:=info_parts Tryz.info155;obtain ⟨n0,d,hr,hxv⟩:=h;have hnv:=qdk d n0;rw [hxv] at hnv;have CTR:=Lib.hid (qbn v n0 d w hr);have HD0:=Lib.hid hr.2.1;have htn:=qim d n0;have hnL:=hr.1;have HM:=Lib.hid hM;clear hr hxv hM
 have hd0:((dd:Int) == 0)=false:=by simp;omega
 go_enter Tryz.func188,Tryz.ntmps188
 go_wp2_with (fail);refine CTR.out.mono ?_;rintro e w' ⟨v',rfl,hv',rfl⟩;clear CTR;obtain ⟨a,cap,rfl⟩:=qap hv';generalize tl d n0=n at *;have HD:Hid (∀ i,i<n->d i<4294967296):=fun i hi=>HD0.out i (by omega);have HR:=Lib.hid hv';have HX:=Lib.hid hnv;clear hv' HD0 hnv
 go_wp2_with (first | (refine wpList_make_full _ rfl _ _ _ rfl w.heap.size 155 i0 (.int .u32 0) 1 Tryz.underlying28 hi hz0 hz1 .i64 .i64 _ _ n rfl rfl ?c4 ?c5 ?c2 ?c3 ?c6 ?_))
 case c2=>rw [hz2];omega
 case c3=>unfold maxLen;omega
 case c4=>simp
 case c5=>simp
 case c6=>simp
 intro w1 hown hgrow;have HD1:Hid (qcW w1 w.heap.size n (fun _=>0)):=⟨Blk.made1 hown,fun _ _=>(by decide:0<4294967296)⟩;have HE1:=Lib.hid (qaw hgrow);clear hown hgrow;go_wp2
 go_loopw [9,8] (fun i r wr=>∃ (k r':Nat) (s':Nat->Nat),k<=n/\i = .int .i64 ((k:Int) - 1)/\r = .int .u32 r'/\r'<dd/\Hid (qcW wr w.heap.size n s')/\Hid (nv (fun t=>d (k+t)) (n - k)=dd*nv (fun t=>s' (k+t)) (n - k)+r')/\Hid (Ext w wr)) (fun i _ _=>(intOf i+1).toNat)
 case atStart=>exact ⟨n,0,_,Nat.le_refl _,rfl,rfl,h0,HD1,(by show _=_;rw [Nat.sub_self];simp [nv]),HE1⟩
 case round=>
  clear HD1 HE1;obtain ⟨k,r,s',hk,rfl,rfl,hr,HDG,HEQ,HEX⟩:=hrel
  by_cases hk0:k=0
  ·subst hk0
   have heq:nv d n=dd*nv s' n+r:=by
    have:=HEQ.out;simpa using this
   rw [HX.out] at heq
   have hq:x / dd=nv s' n:=by
    rw [heq,Nat.mul_add_div h0,Nat.div_eq_of_lt hr,Nat.add_zero]
   have hm:x % dd=r:=by
    rw [heq,Nat.mul_add_mod,Nat.mod_eq_of_lt hr]
   have ctr:=qbj (M:=M) HDG.out.1 (HM.out.new (Nat.le_refl _)) (by unfold maxLen;omega) HDG.out.2 (by have:=qaR _ _ HDG.out.2;omega);rw [<- hq] at ctr;have CTR:=Lib.hid ctr;have HMm:=Lib.hid hm;clear ctr heq hq hm;go_wp2_with (fail);refine CTR.out.mono ?_;rintro e w2 ⟨u,rfl,hu,rfl⟩;have HF:Hid (qny M w x dd (.returned (.tuple #[u,.int .u32 (r:Nat),.bool true])) wr):=⟨u,by rw [HMm.out],hu,HEX.out⟩;clear hu CTR;go_wp2;exact bodyPost_ret (v:=.tuple #[u,.int .u32 (r:Nat),.bool true]) (by simp [results,Tryz.results188,go_sem]) rfl HF.out
  ·obtain ⟨j,hj⟩ : ∃ j,j=k - 1:=⟨k - 1,rfl⟩
   have hkj:k=j+1:=by omega
   obtain ⟨b,o,rfl,hb,hc⟩:=qaz HR.out (by omega);have c0:=hc j (by omega);rw [<- HEX.out.cell hb] at c0
   have hbw:b<wr.heap.size:=by have:=HEX.out.size;omega
   have dj:=HD.out j (by omega);have CD:=Lib.hid (qf5 r (d j) dd wr hr dj hd)
   have j1:(0:Int)<=(k:Int) - 1:=by omega
   have j2:((k:Int) - 1).toNat=j:=by omega
   have j3:(k:Int) - 1<(n:Int):=by omega
   have g4:=HDG.out.1.frozen j
   have hjn:j<n:=by omega
   have g5:=HDG.out.1.cell hjn;have hgl:=HDG.out.1.lt;obtain ⟨q,r2,hq0,hr0,hq1,hr1,HI⟩:=qjY r (d j) dd hr dj
   have hqe:q*dd+r2=r*4294967296+d j:=by have:=HI.out;omega
   have HEQ2:Hid (nv (fun t=>d (j+t)) (n - j)=dd*nv (fun t=>qa2 s' j q (j+t)) (n - j)+r2):=by
    show _=_;obtain ⟨m,hm⟩ : ∃ m,n - j=m+1:=⟨n - j - 1,by omega⟩
    have he:nv (fun t=>d (k+t)) m=dd*nv (fun t=>s' (k+t)) m+r:=by
     have:=HEQ.out;rw [show n - k=m by omega] at this;exact this
    rw [hm,qdO,qdO,qaI (fun i=>qa2 s' j q (j+(i+1))) (fun t=>s' (k+t)) m (fun i _=>by unfold qa2;rw [if_neg (by omega),show j+(i+1)=k+i by omega]),qaI (fun i=>d (j+(i+1))) (fun t=>d (k+t)) m (fun i _=>by rw [show j+(i+1)=k+i by omega]),he];show d (j+0)+_=dd*(qa2 s' j q (j+0)+_)+r2;rw [show qa2 s' j q (j+0)=q by unfold qa2;rw [if_pos (Nat.add_zero _)],Nat.add_zero];exact qmZ rfl hqe
   have hD2:=(HDG.out.ext ((Ext.refl wr).drew)).set j q hq1;have HD2:=Lib.hid hD2;have HE2:Hid (Ext w (wr.drew.setCell ⟨w.heap.size,j,none⟩ (.int .u32 q))):=(HEX.out.trans (Ext.refl _).drew).set (Nat.le_refl _) _;have ctr:=CD.out;rw [<- hq0,<- hr0] at ctr;have CD2:=Lib.hid ctr;clear ctr CD hq0 hr0 HI hqe hD2 hj hc;go_wp2_with (fail);refine CD2.out.mono ?_;rintro e w2 ⟨rfl,rfl⟩;go_wp2
   go_roundw
   case rel=>exact ⟨j,r2,qa2 s' j q,by omega,by go_num,rfl,hr1,HD2,HEQ2,HE2⟩
   case measure=>simp [intOf];omega


theorem qrX {y m s:Nat} (hs:s<=32) (hy:y<2 ^ s) (hm:m<4294967296):y ||| (m*2 ^ s % 4294967296)=y+m*2 ^ s % 4294967296:=by
 obtain ⟨t,ht⟩ : ∃ t,32=s+t:=⟨32 - s,by omega⟩
 have e:m*2 ^ s % 4294967296=2 ^ s*(m % 2 ^ t):=by
  rw [show (4294967296:Nat)=2 ^ s*2 ^ t by rw [<- Nat.pow_add,<- ht],Nat.mul_comm m,Nat.mul_mod_mul_left]
 rw [e,Nat.or_comm,<- Nat.two_pow_add_eq_or_of_lt hy,Nat.add_comm]
theorem qrY {y m s:Nat} (hs:s<=32) (hy:y<2 ^ s):y+m*2 ^ s % 4294967296<4294967296:=by
 obtain ⟨t,ht⟩ : ∃ t,32=s+t:=⟨32 - s,by omega⟩
 have e0:(4294967296:Nat)=2 ^ s*2 ^ t:=by rw [<- Nat.pow_add,<- ht]
 have e:m*2 ^ s % 4294967296=2 ^ s*(m % 2 ^ t):=by
  rw [e0,Nat.mul_comm m,Nat.mul_mod_mul_left]
 have h1:m % 2 ^ t+1<=2 ^ t:=Nat.mod_lt _ (Nat.pow_pos (by decide));have h2:2 ^ s*(m % 2 ^ t+1)<=2 ^ s*2 ^ t:=Nat.mul_le_mul_left _ h1;rw [Nat.mul_add,<- e,Nat.mul_one,<- e0] at h2;omega
theorem qrZ {m s:Nat} (hs:s<=32) (hm:m<4294967296):m*2 ^ s / 4294967296<2 ^ s:=by
 refine Nat.div_lt_of_lt_mul ?_;exact Nat.mul_lt_mul_of_pos_right hm (Nat.pow_pos (by decide))
theorem qp5 (S y W x:Nat):S+(y+W % 4294967296)*x+W / 4294967296*(x*4294967296)=S+y*x+W*x:=by
 have h:W*x=W % 4294967296*x+W / 4294967296*(x*4294967296):=by
  rw [Nat.mul_comm x 4294967296,<- Nat.mul_assoc,<- Nat.add_mul,Nat.mod_add_div' W 4294967296]
 rw [h,Nat.add_mul];omega
theorem qmd {M : Nat -> Prop} (v : Value) (x s : Nat) (w : World) (hM : Mb M w) (h : qcc M w v x) (hs : s < 32) (hL : dlen (x * 2 ^ s) <= 1099511627776) :
  Calls Tryz.prog 190 #[v,.int .i64 (s:Int)] w fun e w'=>∃ u,e = .returned u/\qcY M w' u (x*2 ^ s)/\Ext w w':=by
 obtain ⟨i0,hi,hz0,hz1,hz2⟩:=info_parts Tryz.info155;obtain ⟨n0,d,hr,hxv⟩:=h;have hnv:=qdk d n0;rw [hxv] at hnv;have CTR:=Lib.hid (qbn v n0 d w hr);have HD0:=Lib.hid hr.2.1;have htn:=qim d n0;have hnL:=hr.1;have HM:=Lib.hid hM;have HL:=Lib.hid hL;clear hr hxv hM hL
 go_enter Tryz.func190,Tryz.ntmps190
 go_wp2_with (fail);refine CTR.out.mono ?_;rintro e w' ⟨v',rfl,hv',rfl⟩;clear CTR;obtain ⟨a,cap,rfl⟩:=qap hv';generalize tl d n0=n at *;have HD:Hid (∀ i,i<n->d i<4294967296):=fun i hi=>HD0.out i (by omega);have HR:=Lib.hid hv';have HX:=Lib.hid hnv;clear hv' HD0 hnv
 by_cases hn0:n=0
 ·subst hn0
  have HX0:Hid (x=0):=by have:=HX.out;simp [nv] at this;exact this.symm
  go_wp2;go_ret;exact ⟨_,rfl,by rw [HX0.out,Nat.zero_mul];exact qcY.nil M w,Ext.refl _⟩
 ·have hn0':(n == 0)=false:=by simp [hn0]
  have t1:max (s:Int) 0=s:=by omega
  have t3:(s:Int) / 32=0:=by omega
  have t4:(s:Int) % 32=s:=by omega
  have t2:min (s:Int) 16777216=s:=by omega
  go_wp2_with (first | (refine wpList_make_full _ rfl _ _ _ rfl w.heap.size 155 i0 (.int .u32 0) 1 Tryz.underlying28 hi hz0 hz1 .i64 .i64 _ _ (n+1) rfl rfl ?c4 ?c5 ?c2 ?c3 ?c6 ?_))
  case c2=>rw [hz2];omega
  case c3=>unfold maxLen;omega
  case c4=>go_num
  case c5=>go_num
  case c6=>simp
  intro w1 hown hgrow;have HD1:Hid (qcW w1 w.heap.size (n+1) (fun _=>0)):=⟨Blk.made1 hown,fun _ _=>(by decide:0<4294967296)⟩;have HE1:=Lib.hid (qaw hgrow);have hp0:0<2 ^ s:=Nat.pow_pos (by decide);have HP0:=Lib.hid hp0;clear hown hgrow t1 t2 t3 t4 hp0;go_wp2
  go_loopw [36] (fun i wr=>∃ (k:Nat) (s':Nat->Nat),k<=n/\i = .int .i64 k/\Hid (qcW wr w.heap.size (n+1) s')/\Hid (nv s' (k+1)=nv d k*2 ^ s/\s' k<2 ^ s /\ ∀ i,k<i->s' i=0)/\Hid (Ext w wr)) (fun i _=>n - (intOf i).toNat)
  case atStart=>exact ⟨0,_,Nat.zero_le _,rfl,HD1,(by show _/\_/\_;exact ⟨by simp [nv],HP0.out,fun _ _=>rfl⟩),HE1⟩
  case round=>
   clear HD1 HE1;obtain ⟨k,s',hk,rfl,HDG,HEQ,HEX⟩:=hrel
   by_cases hlt:k<n
   ·obtain ⟨b,o,rfl,hb,hc⟩:=qaz HR.out (by omega);have c0:=hc k hlt;rw [<- HEX.out.cell hb] at c0
    have hbw:b<wr.heap.size:=by have:=HEX.out.size;omega
    have dk:=HD.out k hlt;have g5:=HDG.out.1.cell (i:=k) (by omega);have g4:=HDG.out.1.frozen k;have g6:=HDG.out.1.frozen (k+1);have g7:=HDG.out.1.cell (i:=k+1) (by omega);have hgl:=HDG.out.1.lt;have hsg:IntKind.u64.signed=false:=rfl;obtain ⟨hq1,hq2,hq3⟩:=HEQ.out
    have hW:d k*2 ^ s<18446744073709551616:=by
     have h1:2 ^ s<=2 ^ 31:=Nat.pow_le_pow_right (by decide) (by omega);have h2:d k*2 ^ s<=4294967295*2 ^ 31:=Nat.mul_le_mul (by omega) h1;omega
    have hhi:d k*2 ^ s / 4294967296<2 ^ s:=qrZ (by omega) dk
    have hhi2:d k*2 ^ s / 4294967296<4294967296:=by omega
    have hlo:s' k+d k*2 ^ s % 4294967296<4294967296:=qrY (by omega) hq2
    have E1:IntKind.u64.wrap ((d k:Int)*2 ^ s)=((d k*2 ^ s:Nat):Int):=by
     have h1:=wrap_u64 (d k*2 ^ s) hW;rw [<- h1];simp
    have HE2:Hid (bits BinOp.or IntKind.u32 (s' k:Int) (IntKind.u64.wrap ((d k:Int)*2 ^ s) % 4294967296)=((s' k+d k*2 ^ s % 4294967296:Nat):Int)):=by
     show _=_;rw [E1,show ((d k*2 ^ s:Nat):Int) % 4294967296=((d k*2 ^ s % 4294967296:Nat):Int) from (Int.natCast_emod _ _).symm,qns (s' k) _ (by omega) (Nat.mod_lt _ (by decide)),qrX (by omega) hq2 dk]
    have HE3:Hid (IntKind.u64.wrap ((d k:Int)*2 ^ s) / 4294967296 % 4294967296=((d k*2 ^ s / 4294967296:Nat):Int)):=by
     show _=_;rw [E1,show ((d k*2 ^ s:Nat):Int) / 4294967296=((d k*2 ^ s / 4294967296:Nat):Int) from (Int.natCast_ediv _ _).symm];exact Int.emod_eq_of_lt (Int.natCast_nonneg _) (Int.ofNat_lt.2 hhi2)
    have hD2:=(HDG.out.set k _ hlo).set (k+1) _ hhi2;have HD2:=Lib.hid hD2
    have HEQ2:Hid (nv (qa2 (qa2 s' k (s' k+d k*2 ^ s % 4294967296)) (k+1) (d k*2 ^ s / 4294967296)) (k+1+1)=nv d (k+1)*2 ^ s/\qa2 (qa2 s' k (s' k+d k*2 ^ s % 4294967296)) (k+1) (d k*2 ^ s / 4294967296) (k+1)<2 ^ s /\ ∀ i,k+1<i->qa2 (qa2 s' k (s' k+d k*2 ^ s % 4294967296)) (k+1) (d k*2 ^ s / 4294967296) i=0):=by
     refine ⟨?_,?_,fun i hi=>?_⟩
     ·rw [qa7,qa7,qa7,Nat.add_mul,<- hq1,qa7];rw [qaI (qa2 (qa2 s' k (s' k+d k*2 ^ s % 4294967296)) (k+1) (d k*2 ^ s / 4294967296)) s' k (fun i hi=>by unfold qa2;rw [if_neg (by omega),if_neg (by omega)])];rw [show qa2 (qa2 s' k (s' k+d k*2 ^ s % 4294967296)) (k+1) (d k*2 ^ s / 4294967296) k=s' k+d k*2 ^ s % 4294967296 by unfold qa2;rw [if_neg (by omega),if_pos rfl],show qa2 (qa2 s' k (s' k+d k*2 ^ s % 4294967296)) (k+1) (d k*2 ^ s / 4294967296) (k+1)=d k*2 ^ s / 4294967296 by unfold qa2;rw [if_pos rfl]];rw [Nat.pow_succ,Nat.mul_right_comm (d k)];exact qp5 _ _ _ _
     ·unfold qa2;rw [if_pos rfl];exact hhi
     ·unfold qa2;rw [if_neg (by omega),if_neg (by omega)];exact hq3 i (by omega)
    have HE5:Hid (Ext w ((wr.setCell ⟨w.heap.size,k,none⟩ (.int .u32 ((s' k+d k*2 ^ s % 4294967296:Nat):Int))).setCell ⟨w.heap.size,k+1,none⟩ (.int .u32 ((d k*2 ^ s / 4294967296:Nat):Int)))):=(HEX.out.set (p:=⟨w.heap.size,k,none⟩) (Nat.le_refl _) _).set (p:=⟨w.heap.size,k+1,none⟩) (Nat.le_refl _) _;clear hc hq1 hq2 hq3 hhi hhi2 hlo E1 hD2 hW;go_wp2;rw [HE2.out,HE3.out];exact ⟨⟨k+1,_,by omega,by go_num,HD2,HEQ2,HE5⟩,by simp [intOf];omega⟩
   ·obtain rfl:k=n:=by omega
    have hval:nv s' (k+1)=x*2 ^ s:=by rw [HEQ.out.1,HX.out]
    have ctr:=qbj (M:=M) HDG.out.1 (HM.out.new (Nat.le_refl _)) (by unfold maxLen;omega) HDG.out.2 (by rw [hval];exact HL.out);rw [hval] at ctr;have CTR:=Lib.hid ctr;clear ctr hval;go_wp2_with (fail);refine CTR.out.mono ?_;rintro e w2 ⟨u,rfl,hu,rfl⟩;clear CTR;go_wp2;go_ret;exact ⟨u,rfl,hu,HEX.out⟩
theorem qsh (x y:Nat) (hx:x<4294967296) (hy:y<4294967296):bits BinOp.or .u64 (y:Int) ((x:Int)*4294967296)=((y+x*4294967296:Nat):Int):=by
 have h:=qib y (x*4294967296) (by omega) (by omega);rw [Nat.or_comm,qsg x y hy,Nat.add_comm] at h;rw [<- h];simp
theorem qjd (X s:Nat):(X:Int) / 2 ^ s % 4294967296=((X / 2 ^ s % 4294967296:Nat):Int):=by
 rw [Int.natCast_emod,Int.natCast_ediv,Int.natCast_pow];rfl
theorem qnV {L R s:Nat} (hs:s<=32):(L+4294967296*(4294967296*R)) / 2 ^ s % 4294967296=L / 2 ^ s % 4294967296:=by
 obtain ⟨t,ht⟩ : ∃ t,32=s+t:=⟨32 - s,by omega⟩
 have e0:(4294967296:Nat)=2 ^ s*2 ^ t:=by rw [<- Nat.pow_add,<- ht]
 have e:L+4294967296*(4294967296*R)=L+2 ^ s*(4294967296*(2 ^ t*R)):=by
  have:4294967296*(4294967296*R)=2 ^ s*2 ^ t*(4294967296*R):=by rw [<- e0]
  rw [this,Nat.mul_assoc,Nat.mul_left_comm (2 ^ t)]
 rw [e,Nat.add_mul_div_left _ _ (Nat.pow_pos (by decide)),Nat.add_mul_mod_self_left]
theorem qhv {D:Nat->Nat} {n k s e:Nat} (hD : ∀ i,i<n->D i<4294967296) (hk:k<n) (hs:s<=32) (he:e=if k+1<n then D (k+1) else 0):nv D n / 2 ^ s / 4294967296 ^ k % 4294967296=(D k+e*4294967296) / 2 ^ s % 4294967296:=by
 have h1:nv D n / 4294967296 ^ k=nv (fun i=>D (k+i)) (n - k):=by
  have h2:=qaY D k (n - k);rw [show k+(n - k)=n by omega] at h2;rw [h2,Nat.add_mul_div_left _ _ (qeH k),Nat.div_eq_of_lt (qcH D k fun i hi=>hD i (by omega)),Nat.zero_add]
 rw [Nat.div_div_eq_div_mul,Nat.mul_comm,<- Nat.div_div_eq_div_mul,h1];obtain ⟨m,hm⟩ : ∃ m,n - k=m+1:=⟨n - k - 1,by omega⟩;rw [hm,qdO]
 by_cases h3:k+1<n
 ·obtain ⟨q,rfl⟩ : ∃ q,m=q+1:=⟨m - 1,by omega⟩;rw [qdO,he,if_pos h3];have:=qnV (L:=D k+D (k+1)*4294967296) (R:=nv (fun i=>D (k+(i+1+1))) q) hs;rw [<- this]
  congr 2
  show D (k+0)+4294967296*(D (k+(0+1))+_)=_;rw [Nat.mul_add,Nat.add_zero,Nat.zero_add];omega
 ·obtain rfl:m=0:=by omega
  rw [he,if_neg h3];simp [nv]
theorem ql6 {s':Nat->Nat} {k Y z:Nat} (h:nv s' k=Y % 4294967296 ^ k) (hz:z=Y / 4294967296 ^ k % 4294967296):nv (qa2 s' k z) (k+1)=Y % 4294967296 ^ (k+1):=by
 rw [qa7,qaI (qa2 s' k z) s' k (fun i hi=>by unfold qa2;rw [if_neg (by omega)]),h,show qa2 s' k z k=z by unfold qa2;rw [if_pos rfl],hz,Nat.pow_succ,Nat.mod_mul,Nat.mul_comm (4294967296 ^ k)]
theorem qqt {M : Nat -> Prop} (v : Value) (x s : Nat) (w : World) (hM : Mb M w) (h : qcc M w v x) (hs : s < 32) :
  Calls Tryz.prog 194 #[v,.int .i64 (s:Int)] w fun e w'=>∃ u,e = .returned u/\qcY M w' u (x / 2 ^ s)/\Ext w w':=by
 obtain ⟨i0,hi,hz0,hz1,hz2⟩:=info_parts Tryz.info155;obtain ⟨n0,d,hr,hxv⟩:=h;have hnv:=qdk d n0;rw [hxv] at hnv;have CTR:=Lib.hid (qbn v n0 d w hr);have HD0:=Lib.hid hr.2.1;have htn:=qim d n0;have hnL:=hr.1;have HM:=Lib.hid hM;clear hr hxv hM
 go_enter Tryz.func194,Tryz.ntmps194
 go_wp2_with (fail);refine CTR.out.mono ?_;rintro e w' ⟨v',rfl,hv',rfl⟩;clear CTR;obtain ⟨a,cap,rfl⟩:=qap hv';generalize tl d n0=n at *;have HD:Hid (∀ i,i<n->d i<4294967296):=fun i hi=>HD0.out i (by omega);have HR:=Lib.hid hv';have HX:=Lib.hid hnv;clear hv' HD0 hnv
 have t1:max (s:Int) 0=s:=by omega
 have t3:(s:Int) / 32=0:=by omega
 have t4:(s:Int) % 32=s:=by omega
 by_cases hn0:n=0
 ·subst hn0
  have HX0:Hid (x=0):=by have:=HX.out;simp [nv] at this;exact this.symm
  go_wp2;go_ret;exact ⟨_,rfl,by rw [HX0.out,Nat.zero_div];exact qcY.nil M w,Ext.refl _⟩
 ·have hn0' : ¬ (n:Int)<=0:=by omega
  obtain ⟨b,o,rfl,hb,hc⟩:=qaz HR.out (by omega);have HC:=Lib.hid hc
  have hcap:n<=cap/\cap<=9223372036854775807:=by
   rcases HR.out.2.2 with ⟨h0,_⟩ | ⟨_,_,_,hv,hn,hc,_⟩
   ·omega
   ·simp only [Value.slice.injEq,true_and] at hv;obtain ⟨_,rfl⟩:=hv;unfold maxLen at hc;omega
  obtain ⟨hcap1,hcap2⟩:=hcap
  have hcap0 : ¬ cap=0:=by omega
  clear hc
  go_wp2_with (first | (refine wpList_make_full _ rfl _ _ _ rfl w.heap.size 155 i0 (.int .u32 0) 1 Tryz.underlying28 hi hz0 hz1 .i64 .i64 _ _ n rfl rfl ?c4 ?c5 ?c2 ?c3 ?c6 ?_))
  case c2=>rw [hz2];omega
  case c3=>unfold maxLen;omega
  case c4=>go_num
  case c5=>go_num
  case c6=>simp
  intro w1 hown hgrow;have HD1:Hid (qcW w1 w.heap.size n (fun _=>0)):=⟨Blk.made1 hown,fun _ _=>(by decide:0<4294967296)⟩;have HE1:=Lib.hid (qaw hgrow);clear hown hgrow t1 t3 t4;go_wp2
  go_loopw [33] (fun i wr=>∃ (k:Nat) (s':Nat->Nat),k<=n/\i = .int .i64 k/\Hid (qcW wr w.heap.size n s')/\Hid (nv s' k=x / 2 ^ s % 4294967296 ^ k)/\Hid (Ext w wr)) (fun i _=>n - (intOf i).toNat)
  case atStart=>exact ⟨0,_,Nat.zero_le _,rfl,HD1,(by show _=_;simp [nv,Nat.mod_one]),HE1⟩
  case round=>
   clear HD1 HE1;obtain ⟨k,s',hk,rfl,HDG,HEQ,HEX⟩:=hrel
   by_cases hlt:k<n
   ·have c0:=HC.out k hlt;rw [<- HEX.out.cell hb] at c0
    have hbw:b<wr.heap.size:=by have:=HEX.out.size;omega
    have dk:=HD.out k hlt;have g5:=HDG.out.1.cell (i:=k) (by omega);have g4:=HDG.out.1.frozen k;have hgl:=HDG.out.1.lt;have hsg:IntKind.u64.signed=false:=rfl
    by_cases hk1:k+1<n
    ·have c1:=HC.out (k+1) hk1;rw [<- HEX.out.cell hb] at c1;have dk1:=HD.out (k+1) hk1
     have hk1':(k:Int)+1<(n:Int):=by omega
     have HZ:Hid (bits BinOp.or IntKind.u64 (d k:Int) ((d (k+1):Int)*4294967296) / 2 ^ s % 4294967296=(((d k+d (k+1)*4294967296) / 2 ^ s % 4294967296:Nat):Int)):=by show _=_;rw [qsh _ _ dk1 dk];exact qjd _ _
     have hzl:(d k+d (k+1)*4294967296) / 2 ^ s % 4294967296<4294967296:=Nat.mod_lt _ (by decide);have HD2:=Lib.hid (HDG.out.set k _ hzl);have HEQ2:Hid (nv (qa2 s' k ((d k+d (k+1)*4294967296) / 2 ^ s % 4294967296)) (k+1)=x / 2 ^ s % 4294967296 ^ (k+1)):=ql6 HEQ.out (by rw [<- HX.out];exact (qhv HD.out hlt (by omega) (by rw [if_pos hk1])).symm);have HE5:Hid (Ext w (wr.setCell ⟨w.heap.size,k,none⟩ (.int .u32 (((d k+d (k+1)*4294967296) / 2 ^ s % 4294967296:Nat):Int)))):=HEX.out.set (p:=⟨w.heap.size,k,none⟩) (Nat.le_refl _) _;go_wp2;rw [HZ.out];exact ⟨⟨k+1,_,by omega,by go_num,HD2,HEQ2,HE5⟩,by simp [intOf];omega⟩
    ·have hk1' : ¬ (k:Int)+1<(n:Int):=by omega
     have HZ:Hid ((d k:Int) / 2 ^ s % 4294967296=(((d k+0*4294967296) / 2 ^ s % 4294967296:Nat):Int)):=by show _=_;rw [Nat.zero_mul,Nat.add_zero];exact qjd _ _
     have hzl:(d k+0*4294967296) / 2 ^ s % 4294967296<4294967296:=Nat.mod_lt _ (by decide);have HD2:=Lib.hid (HDG.out.set k _ hzl);have HEQ2:Hid (nv (qa2 s' k ((d k+0*4294967296) / 2 ^ s % 4294967296)) (k+1)=x / 2 ^ s % 4294967296 ^ (k+1)):=ql6 HEQ.out (by rw [<- HX.out];exact (qhv HD.out hlt (by omega) (by rw [if_neg hk1])).symm);have HE5:Hid (Ext w (wr.setCell ⟨w.heap.size,k,none⟩ (.int .u32 (((d k+0*4294967296) / 2 ^ s % 4294967296:Nat):Int)))):=HEX.out.set (p:=⟨w.heap.size,k,none⟩) (Nat.le_refl _) _;go_wp2;rw [HZ.out];exact ⟨⟨k+1,_,by omega,by go_num,HD2,HEQ2,HE5⟩,by simp [intOf];omega⟩
   ·obtain rfl:k=n:=by omega
    have hval:nv s' k=x / 2 ^ s:=by
     rw [HEQ.out];refine Nat.mod_eq_of_lt (Nat.lt_of_le_of_lt (Nat.div_le_self _ _) ?_);rw [<- HX.out];exact qcH d k HD.out
    have ctr:=qbj (M:=M) HDG.out.1 (HM.out.new (Nat.le_refl _)) (by unfold maxLen;omega) HDG.out.2 (by have:=qaR _ _ HDG.out.2;omega);rw [hval] at ctr;have CTR:=Lib.hid ctr;clear ctr hval;go_wp2_with (fail);refine CTR.out.mono ?_;rintro e w2 ⟨u,rfl,hu,rfl⟩;clear CTR;go_wp2;go_ret;exact ⟨u,rfl,hu,HEX.out⟩
end Go.Proofs.YtmcfpnmoklnhoaaGreat
