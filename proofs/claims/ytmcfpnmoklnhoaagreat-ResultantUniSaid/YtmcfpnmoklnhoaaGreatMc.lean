/- Mc -/
import Derived.Shelf.SlSortCmp.WholeK
import Derived.Shelf.Small.Bits
import Derived.Ground.SlsfProg
import Derived.Ground.NamesProg
import Derived.Test.YtmcfpnmoklnhoaaGreatProg
import Derived.Test.YtmcfpnmoklnhoaaGreatMb
set_option linter.unusedVariables false
set_option maxRecDepth 100000
set_option maxHeartbeats 400000000
set_option linter.unusedSimpArgs false
namespace Go.Proofs
open Go.Shelf
def Tryz.qAe:Go.Shelf.Ren:=⟨λ |14=>197|20=>207|21=>208|22=>209|23=>210|24=>211|25=>212|26=>213|27=>214|46=>216|47=>199|48=>200|49=>217|50=>218|15=>154|57=>219|28=>179|29=>180|n=>n,λ |24=>129|22=>70|3=>3|25=>175|4=>4|0=>0|46=>196|45=>195|50=>191|66=>214|39=>156|55=>108|70=>218|76=>226|77=>227|53=>155|5=>5|9=>9|n=>n,λ |n=>n⟩
theorem Tryz.pdqTerm:Go.Proofs.SlLaysF0.n14 Tryz.prog Tryz.qAe:={
 mixed:=by kernel_rfl
 f14:=⟨Tryz.f197.name,by decide,Tryz.func197.trans (congrArg some (by kernel_rfl))⟩
 f15:=Tryz.func154.trans (congrArg some (by kernel_rfl))
 f20:=⟨Tryz.f207.name,by decide,Tryz.func207.trans (congrArg some (by kernel_rfl))⟩
 f21:=⟨Tryz.f208.name,by decide,Tryz.func208.trans (congrArg some (by kernel_rfl))⟩
 f22:=⟨Tryz.f209.name,by decide,Tryz.func209.trans (congrArg some (by kernel_rfl))⟩
 f23:=⟨Tryz.f210.name,by decide,Tryz.func210.trans (congrArg some (by kernel_rfl))⟩
 f24:=⟨Tryz.f211.name,by decide,Tryz.func211.trans (congrArg some (by kernel_rfl))⟩
 f25:=⟨Tryz.f212.name,by decide,Tryz.func212.trans (congrArg some (by kernel_rfl))⟩
 f26:=⟨Tryz.f213.name,by decide,Tryz.func213.trans (congrArg some (by kernel_rfl))⟩
 f27:=⟨Tryz.f214.name,by decide,Tryz.func214.trans (congrArg some (by kernel_rfl))⟩
 f28:=Tryz.func179.trans (congrArg some (by kernel_rfl))
 f29:=Tryz.func180.trans (congrArg some (by kernel_rfl))
 f46:=⟨Tryz.f216.name,by decide,Tryz.func216.trans (congrArg some (by kernel_rfl))⟩
 f47:=Tryz.func199.trans (congrArg some (by kernel_rfl))
 f48:=Tryz.func200.trans (congrArg some (by kernel_rfl))
 f49:=⟨Tryz.f217.name,by decide,Tryz.func217.trans (congrArg some (by kernel_rfl))⟩
 f50:=⟨Tryz.f218.name,by decide,Tryz.func218.trans (congrArg some (by kernel_rfl))⟩
 f57:=⟨Tryz.f219.name,by decide,Tryz.func219.trans (congrArg some (by kernel_rfl))⟩
 t0:=Tryz.underlying0
 a0:=Tryz.isAgg0
 z0:=Tryz.sizeOf0
 v0:=Tryz.zeroValue0
 t3:=Tryz.underlying3
 a3:=Tryz.isAgg3
 z3:=Tryz.sizeOf3
 v3:=Tryz.zeroValue3
 t4:=Tryz.underlying4
 a4:=Tryz.isAgg4
 z4:=Tryz.sizeOf4
 v4:=Tryz.zeroValue4
 t5:=Tryz.underlying5
 a5:=Tryz.isAgg5
 z5:=Tryz.sizeOf5
 v5:=Tryz.zeroValue5
 t9:=Tryz.underlying9
 a9:=Tryz.isAgg9
 z9:=Tryz.sizeOf9
 v9:=Tryz.zeroValue9
 t22:=Tryz.underlying70
 a22:=Tryz.isAgg70
 z22:=Tryz.sizeOf70
 v22:=Tryz.zeroValue70
 t25:=Tryz.underlying175
 a25:=Tryz.isAgg175
 z25:=Tryz.sizeOf175
 v25:=Tryz.zeroValue175
 t39:=Tryz.underlying156
 a39:=Tryz.isAgg156
 z39:=Tryz.sizeOf156
 v39:=Tryz.zeroValue156
 t45:=Tryz.underlying195
 a45:=Tryz.isAgg195
 z45:=Tryz.sizeOf195
 v45:=Tryz.zeroValue195
 t46:=Tryz.underlying196
 a46:=Tryz.isAgg196
 z46:=Tryz.sizeOf196
 v46:=Tryz.zeroValue196
 t50:=Tryz.underlying191
 a50:=Tryz.isAgg191
 z50:=Tryz.sizeOf191
 v50:=Tryz.zeroValue191
 t53:=Tryz.underlying155
 a53:=Tryz.isAgg155
 z53:=Tryz.sizeOf155
 v53:=Tryz.zeroValue155
 t55:=Tryz.underlying108
 a55:=Tryz.isAgg108
 z55:=Tryz.sizeOf108
 v55:=Tryz.zeroValue108
 t66:=Tryz.underlying214
 a66:=Tryz.isAgg214
 z66:=Tryz.sizeOf214
 v66:=Tryz.zeroValue214
 t70:=Tryz.underlying218
 a70:=Tryz.isAgg218
 z70:=Tryz.sizeOf218
 v70:=Tryz.zeroValue218
 t76:=Tryz.underlying226
 a76:=Tryz.isAgg226
 z76:=Tryz.sizeOf226
 v76:=Tryz.zeroValue226
 t77:=Tryz.underlying227
 a77:=Tryz.isAgg227
 z77:=Tryz.sizeOf227
 v77:=Tryz.zeroValue227}
def Tryz.qs7:Go.Shelf.Ren:=⟨λ |125=>154|128=>179|129=>180|n=>n,λ |46=>156|3=>3|51=>155|53=>108|4=>4|5=>5|9=>9|n=>n,λ |n=>n⟩
theorem Tryz.bitsLen:Go.Proofs.Lays.n125 Tryz.prog Tryz.qs7:={
 mixed:=by kernel_rfl
 f125:=Tryz.func154.trans (congrArg some (by kernel_rfl))
 f128:=Tryz.func179.trans (congrArg some (by kernel_rfl))
 f129:=Tryz.func180.trans (congrArg some (by kernel_rfl))
 t3:=Tryz.underlying3
 a3:=Tryz.isAgg3
 z3:=Tryz.sizeOf3
 v3:=Tryz.zeroValue3
 t4:=Tryz.underlying4
 a4:=Tryz.isAgg4
 z4:=Tryz.sizeOf4
 v4:=Tryz.zeroValue4
 t5:=Tryz.underlying5
 a5:=Tryz.isAgg5
 z5:=Tryz.sizeOf5
 v5:=Tryz.zeroValue5
 t9:=Tryz.underlying9
 a9:=Tryz.isAgg9
 z9:=Tryz.sizeOf9
 v9:=Tryz.zeroValue9
 t46:=Tryz.underlying156
 a46:=Tryz.isAgg156
 z46:=Tryz.sizeOf156
 v46:=Tryz.zeroValue156
 t51:=Tryz.underlying155
 a51:=Tryz.isAgg155
 z51:=Tryz.sizeOf155
 v51:=Tryz.zeroValue155
 t53:=Tryz.underlying108
 a53:=Tryz.isAgg108
 z53:=Tryz.sizeOf108
 v53:=Tryz.zeroValue108}
end Go.Proofs
namespace Go.Proofs.YtmcfpnmoklnhoaaGreat
open Go.RowKit
structure TE where
 b:Bool
 a:Option Addr
 n:Nat
 p:Nat
 m:Mo
instance:Inhabited TE:=⟨⟨false,none,0,0,⟨0,0,0,0⟩⟩⟩
def zO(x:TE):List Value:=[.bool x.b,.slice x.a x.n x.p,.int .i64 x.m.a,.int .i64 x.m.b,.int .i64 x.m.c,.int .i64 x.m.d]
def tx(x:Nat->TE):Nat->Value:=mX (λi=>.bool (x i).b) (λi=>.slice (x i).a (x i).n (x i).p) (λi=>(x i).m)
def Di(x y:TE):Int:=rq y.m x.m
theorem qBv(x y:TE)(w:World):Calls Tryz.prog 169 #[.agg #[.bool x.b,.slice x.a x.n x.p,.int .i64 x.m.a,.int .i64 x.m.b,.int .i64 x.m.c,.int .i64 x.m.d],.agg #[.bool y.b,.slice y.a y.n y.p,.int .i64 y.m.a,.int .i64 y.m.b,.int .i64 y.m.c,.int .i64 y.m.d]] w λe w'=>e=.returned (.int .i64 (Di x y))/\Gr w w':=by
 have hE:Hid (Gr w ((w.alloc (.cells #[.bool x.b,.slice x.a x.n x.p,.int .i64 x.m.a,.int .i64 x.m.b,.int .i64 x.m.c,.int .i64 x.m.d] 129)).alloc (.cells #[.bool y.b,.slice y.a y.n y.p,.int .i64 y.m.a,.int .i64 y.m.b,.int .i64 y.m.c,.int .i64 y.m.d] 129))):=((Gr.refl w).alloc _).alloc _
 go_enter Tryz.func169,Tryz.ntmps169
 go_wp2_with (fail);refine(qBu y.m x.m _).mono ?_;rintro e w1 ⟨rfl,az⟩;go_wp2;go_ret;exact⟨rfl,hE.out.trans az⟩
theorem qqB:Go.Sort.SWO (Go.Proofs.ltOf Di) where
 irrefl x:=by
  unfold Go.Proofs.ltOf Di;simp only[decide_eq_false_iff_not,VF];exact Mo.lt_irrefl _
 trans x y z h1 h2:=by
  unfold Go.Proofs.ltOf Di at*;simp only[decide_eq_true_eq,VF]at*;exact Mo.lt_trans h2 h1
 ntrans x y z h1 h2:=by
  unfold Go.Proofs.ltOf Di at*;simp only[decide_eq_false_iff_not,VF]at*;intro h3;rcases Mo.SS y.m x.m with k|k|k
  ·exact h1 k
  ·rw[k]at h2;exact h2 h3
  ·exact h2 (Mo.lt_trans h3 k)
theorem qtw(blk off size:Nat)(w:World):Go.Proofs.CmpLays Tryz.prog 169 #[] zO 6 Di blk off size w:=
 λ_ _ _ _ x y=>(qBv x y _).mono λ_ _⟨he,q,os,hg⟩=>⟨he,q,os,hg⟩
theorem qs1(w:World):(isAgg 129).run Tryz.prog w=.ok true w:=by kernel_rfl
theorem qBt(w:World):(Go.sizeOf 129).run Tryz.prog w=.ok 6 w:=by kernel_rfl
theorem qBX(x:TE):∀v∈zO x,v.oneCell'=true:=by
 intro v hv;simp only[zO,List.mem_cons,List.not_mem_nil,or_false]at hv;rcases hv with rfl|rfl|rfl|rfl|rfl|rfl<;>rfl
def ym(x:Nat->TE)(n:Nat):Array TE:=((List.range n).map x).toArray
theorem Yz(x:Nat->TE)(n:Nat):(ym x n).size=n:=by simp[ym]
theorem qBW(x:Nat->TE)(n i:Nat)(h:i<n):(ym x n)[i]! =x i:=by
 simp[ym,h]
theorem qCb(x:TE)(k:Nat)(hk:k<6)(c:Nat->TE)(i:Nat)(h:c i=x):(zO x)[k]! =tx c (i*6+k):=by
 subst h;unfold tx
 match k,hk with
 |0,_=>rw[Nat.add_zero,OW];rfl
 |1,_=>rw[OX];rfl
 |2,_=>rw[TA];rfl
 |3,_=>rw[TC];rfl
 |4,_=>rw[TD];rfl
 |5,_=>rw[TF];rfl
theorem qj0(d:Array TE)(x:Nat->TE)(n j:Nat)(hd:d.size=n)(hx:∀i,i<n->d[i]! =x i)(hj:j<n*6):(Go.Sort.flatK zO 6 d)[j]! =tx x j:=by
 rw[Go.Sort.get_flatK _ _ _ _ (by rw[hd];exact hj),qCb _ (j%6) (Nat.mod_lt _ (by decide)) x (j/6) (hx _ (by omega)).symm]
 congr 1
 omega
theorem qxB{w:World}{g cap n:Nat}{t:TypeId}{F:Nat->Value}{x:Nat->TE}(hB:aG w g t (cap*6) F)(hn:n<=cap)(hF:∀j,j<n*6->F j=tx x j):Go.Sort.HoldsK zO 6 w g 0 (ym x n):=by
 intro j hj;rw[Go.Sort.size_flatK,Yz]at hj;have DZ:n*6<=cap*6:=eB _ hn;rw[Nat.zero_add,hB.cell (by omega),hF j hj,qj0 (ym x n) x n j (Yz _ _) (λi hi=>qBW x n i hi) hj];exact⟨rfl,hB.frozen j⟩
theorem qtb{w:World}{g cap n q:Nat}{t:TypeId}{F:Nat->Value}(hB:aG w g t (cap*6) F)(d:Array TE)(os:Array Obj)(hd:d.size=n)(hn:n<=cap):
 aG (Go.Proofs.sortWorldK zO 6 w g 0 q d os) g t (cap*6) (λj=>if j<n*6 then tx (λi=>d[i]!) j else F j)/\w.grownBy (Go.Proofs.sortWorldK zO 6 w g 0 q d os) (some g):=by
 obtain⟨cur,hg,hs,hc⟩:=hB;have hlt:g<w.heap.size:=(Array.getElem?_eq_some_iff.1 hg).1
 have qmo:∀k,k<w.heap.size->(Go.Proofs.sortWorldK zO 6 w g 0 q d os).heap[k]?=(w.heap.modify g (Go.Sort.onCells (Go.Sort.putCells id 0 (Go.Sort.flatK zO 6 d))))[k]?:=by
  intro k hk;unfold Go.Proofs.sortWorldK;rw[Go.Sort.heap_grow_old _ _ (by simp[Go.Sort.putRowK,Go.Sort.putRow,Go.Sort.mapBlock,Go.Sort.ahead];exact hk)];rfl
 constructor
 ·refine⟨Go.Sort.putCells id 0 (Go.Sort.flatK zO 6 d) cur,?_,by simp[Go.Sort.putCells,hs],λi hi=>?_⟩
  ·rw[qmo g hlt];simp[Array.getElem?_modify,hg,Go.Sort.onCells]
  ·simp only[Go.Sort.putCells,Array.getElem?_mapIdx,hc i hi,Option.map_some,bK,true_and,Nat.zero_add,Go.Sort.size_flatK,hd,Nat.sub_zero,id_eq]
   by_cases h:i<n*6
   ·rw[ai h,ai h,qj0 d (λi=>d[i]!) n i hd (λ_ _=>rfl) h]
   ·rw[ah h,ah h]
 ·refine⟨rfl,rfl,rfl,?_,λk hk hne=>?_⟩
  ·unfold Go.Proofs.sortWorldK;rw[Go.Sort.size_grow];simp[Go.Sort.putRowK,Go.Sort.putRow,Go.Sort.mapBlock,Go.Sort.ahead]
  ·rw[qmo k hk,Array.getElem?_modify,ah (λe=>hne (by rw[e]))]
theorem qq2(n:Nat)(h:n<18446744073709551616):IntKind.u64.wrap (n:Int)=n:=IntWalk.u64_in _ (by omega)
theorem qiK(n:Nat)(w:World)(h:n<18446744073709551616):Calls Tryz.prog 154 #[.int .u64 (n:Int)] w λe w'=>e=.returned (.int .i64 (Lib.bitLen n:Nat))/\w'=w:=by
 have h:=Any.bits_Len Tryz.bitsLen (n:Int) w (by omega) (by omega);rw[Int.toNat_natCast]at h;exact h
theorem qBy{w:World}{g cap n:Nat}{F:Nat->Value}{x:Nat->TE}(hB:aG w g 129 (cap*6) F)(hn:n<=cap)(hL:n<=1099511627776)(hF:∀j,j<n*6->F j=tx x j):
 Calls Tryz.prog 168 #[.slice (some ⟨g,0,none⟩) n cap,.func (.func 169) #[] #[]] w λe w'=>e=.returned (.tuple #[])/\
  ∃(x':Nat->TE)(F':Nat->Value),aG w' g 129 (cap*6) F'/\(∀j,j<n*6->F' j=tx x' j)/\((List.range n).map x').Perm ((List.range n).map x)/\(∀i j,i<j->j<n->¬Mo.lt (x' i).m (x' j).m)/\w.grownBy w' (some g):=by
 have hH:=qxB hB hn hF;have hs:=Yz x n
 have eg:∀args w,(callFunc 169 args).run Tryz.prog w=.ok (.enter 169 args) w:=λ_ _=>by kernel_rfl
 have hlim:Lib.bitLen n<4611686018427387904:=Nat.lt_of_le_of_lt (Lib.bitLen_le n 62 (by omega) (by omega)) (by omega);have hp:=AnyQ.pdqsortCmpFunc_all (P:=Tryz.prog) Tryz.pdqTerm 6 qs1 qBt zO Di 169 #[] qqB g 0 cap (ym x n) w eg (qtw g 0 (ym x n).size w) ⟨λ_=>rfl,qBX,hH,hB.lt⟩ (n+1) 0 n (Lib.bitLen n) (ym x n) w (by omega) rfl (SWK.start hH) (bK _) (by rw[hs];exact aI _) (by rw[hs];omega) hlim (Or.inl rfl);have qdH:=Go.Sort.pdq_sorts (Go.Proofs.ltOf Di) qqB (ym x n) 0 n (Lib.bitLen n) true true (bK _) (by rw[hs];exact aI _) (Or.inl rfl);rw[hs]at hp;change Calls Tryz.prog 197 _ _ _ at hp;generalize Go.Sort.pdq (Go.Proofs.ltOf Di) (ym x n) 0 n (Lib.bitLen n) true true=d' at hp qdH;have HP:=ae hp;have HS:=ae qdH;have hwr:=qq2 n (by omega);have HBL:=ae (qiK n w (by omega));clear hp qdH hlim hH hs;generalize Lib.bitLen n=bl at*
 go_enter Tryz.func168,Tryz.ntmps168
 go_wp2_with (fail);refine HBL.out.mono ?_;rintro e w1 ⟨rfl,rfl⟩;go_wp2_with (fail);refine HP.out.mono ?_;rintro e w2 ⟨rfl,q,os,rfl⟩;go_wp2
 go_end0
 obtain⟨⟨hsz,_,RO⟩,Xh⟩:=HS.out;rw[Yz]at hsz;obtain⟨h1,h2⟩:=qtb (q:=q) hB d' os hsz hn;refine⟨rfl,λi=>d'[i]!,_,h1,λj hj=>by rw[ai hj],?_,λi j kP hj=>?_,h2⟩
 ·have e1:(d'.extract 0 n).toList=(List.range n).map (λi=>d'[i]!):=by
   apply List.ext_getElem?;intro i
   by_cases hi:i<n
   ·simp[hi,hsz]
   ·rw[List.getElem?_eq_none (by simp;omega),List.getElem?_eq_none (by simp;omega)]
  have e2:((ym x n).extract 0 n).toList=(List.range n).map x:=by
   simp[ym,List.take_of_length_le]
  rw[e1,e2]at RO;exact RO
 ·have:=Xh i j (bK _) kP hj;unfold Go.Proofs.ltOf Di at this;simpa[VF]using this
theorem qys(fv:Value)(w:World):Calls Tryz.prog 207 #[.slice none 0 0,.int .i64 0,.int .i64 0,fv] w λe w'=>e=.returned (.tuple #[])/\w=w':=by
 go_enter Tryz.func207,Tryz.ntmps207
 go_wp2;refine wp_loop_rounds 1 ?_;rw[rounds_succ];go_wp2
 go_end0
 exact⟨rfl,rfl⟩
theorem qAf(fv:Value)(w:World):Calls Tryz.prog 197 #[.slice none 0 0,.int .i64 0,.int .i64 0,.int .i64 0,fv] w λe w'=>e=.returned (.tuple #[])/\w=w':=by
 go_enter Tryz.func197,Tryz.ntmps197
 go_wp2;refine wp_loop_rounds 1 ?_;rw[rounds_succ];go_wp2_with (fail);refine(qys fv w).mono ?_;rintro e w1 ⟨rfl,rfl⟩;go_wp2;refine bu (results_none rfl _ _ _) rfl ?_;exact⟨rfl,rfl⟩
theorem qBz(fv:Value)(w:World):Calls Tryz.prog 168 #[.slice none 0 0,fv] w λe w'=>e=.returned (.tuple #[])/\w=w':=by
 have hb:=qiK 0 w (by omega)
 have h0:Lib.bitLen 0=0:=by decide
 rw[h0]at hb;have hwr:IntKind.u64.wrap ((0:Nat):Int)=(0:Nat):=qq2 0 (by omega);have HB:=ae hb;clear hb h0
 go_enter Tryz.func168,Tryz.ntmps168
 go_wp2_with (fail);refine HB.out.mono ?_;rintro e w1 ⟨rfl,rfl⟩;go_wp2_with (fail);refine(qAf fv _).mono ?_;rintro e w2 ⟨rfl,rfl⟩;go_wp2
 go_end0
 exact⟨rfl,rfl⟩
def gU(n:Nat)(z:Nat->Int)(m:Nat->Mo):List Tm:=(List.range n).map λi=>(z i,m i)
def MR(M:Nat->Prop)(v:Value):Nat->Prop:=λb=>M b\/v.ownBlock=some b
def AB(M:Nat->Prop)(base:Nat)(w:World)(v:Value)(l:List Tm):Prop:=
 ∃(n:Nat)(z:Nat->Int)(x:Nat->TE),Own w base 129 6 v n (tx x)/\(∀i,i<n->ek (MR M v) w (.bool (x i).b) (.slice (x i).a (x i).n (x i).p) (z i))/\l=(List.range n).map (λi=>(z i,(x i).m))/\n<=1099511627776/\(∀g,v.ownBlock=some g->¬M g)
def Ga(n:Nat)(m:Nat->Mo):Prop:=(∀i j,i<j->j<n->m i≠m j)/\∀i,i<n->(m i).nn=true
theorem Ga.inj{n:Nat}{m:Nat->Mo}(h:Ga n m){i j:Nat}(hi:i<n)(hj:j<n)(e:m i=m j):i=j:=by
 rcases Nat.lt_trichotomy i j with k|k|k
 ·exact absurd e (h.1 i j k hj)
 ·exact k
 ·exact absurd e.symm (h.1 j i k hi)
theorem qB2{n:Nat}{z:Nat->Int}{m:Nat->Mo}(h:Ga n m){r:List Tm}(hp:r.Perm ((gU n z m).filter λt=>decide (t.1≠0)))(hs:r.Pairwise (λs t=>¬Mo.lt s.2 t.2)):r=norm (gU n z m):=by
 have hd:(gU n z m).Pairwise (λs t=>s.2≠t.2):=by
  unfold gU;rw[List.pairwise_map];refine(List.pairwise_lt_range (n:=n)).imp_of_mem ?_;intro i j hi hj kP;exact h.1 i j kP (by simpa using hj)
 have hn:∀t∈gU n z m,t.2.nn=true:=by
  intro t ht;simp only[gU,List.mem_map,List.mem_range]at ht;obtain⟨i,hi,rfl⟩:=ht;exact h.2 i hi
 obtain⟨hc,he⟩:=qtj hd hn hp hs;refine norm_eq hc λq=>?_;rw[he];unfold sD
 by_cases hq:q.nn=true
 ·rw[ai hq]
 ·rw[ah hq];exact rQ λt ht e=>hq (e ▸ hn t ht)
open Classical in
theorem qqs{n cnt:Nat}{z:Nat->Int}{m:Nat->Mo}(hg:Ga n m)(X x':Nat->TE)(hX:∀i,i<n->(X i).m=m i)(σ:Nat->Nat)(hσ:(List.range cnt).map σ=(List.range n).filter (λi=>decide (z i≠0)))
 (hp:((List.range cnt).map x').Perm ((List.range cnt).map λj=>X (σ j))) (hs:∀i j,i<j->j<cnt->¬Mo.lt (x' i).m (x' j).m):
 ∃τ:Nat->Nat,(∀j,j<cnt->τ j<n/\x' j=X (τ j))/\norm (gU n z m)=(List.range cnt).map (λj=>(z (τ j),(x' j).m)):=by
 have qmG:∀j,j<cnt->∃i,i<n/\x' j=X i:=by
  intro j hj;have h1:x' j∈(List.range cnt).map x':=List.mem_map.2 ⟨j,List.mem_range.2 hj,rfl⟩;have h2:=(hp.mem_iff).1 h1;obtain⟨q,hq,e⟩:=List.mem_map.1 h2;have h3:σ q∈(List.range cnt).map σ:=List.mem_map.2 ⟨q,hq,rfl⟩;rw[hσ]at h3;exact⟨σ q,by simpa using(List.mem_filter.1 h3).1,e.symm⟩
 let φ:TE->Tm:=λt=>((if h:∃i,i<n/\t=X i then z (Classical.choose h)else 0),t.m)
 have hφ:∀i,i<n->φ (X i)=(z i,m i):=by
  intro i hi;have hex:∃j,j<n/\X i=X j:=⟨i,hi,rfl⟩;have hc:=Classical.choose_spec hex
  have he:Classical.choose hex=i:=by
   refine(hg.inj hi hc.1 ?_).symm;rw[<-hX i hi, <-hX _ hc.1, <-hc.2]
  show((if h:∃j,j<n/\X i=X j then z (Classical.choose h)else 0),(X i).m)=_;rw[dif_pos hex,he,hX i hi]
 obtain⟨τ,hτ⟩:∃τ:Nat->Nat,∀j,j<cnt->τ j<n/\x' j=X (τ j):=⟨λj=>if h:j<cnt then Classical.choose (qmG j h)else 0,λj hj=>by
  simp only[dif_pos hj]
  exact Classical.choose_spec (qmG j hj)⟩
 refine⟨τ,hτ,?_⟩
 ·have hr:((List.range cnt).map λj=>φ (x' j))=(List.range cnt).map (λj=>(z (τ j),(x' j).m)):=by
   apply List.map_congr_left;intro j hj
   have hj':j<cnt:=by simpa using hj
   have hc:=hτ j hj';rw[hc.2,hφ _ hc.1,hX _ hc.1]
  rw[<-hr];refine(qB2 hg ?_ ?_).symm
  ·have h1:((List.range cnt).map λj=>φ (x' j)).Perm ((List.range cnt).map λj=>φ (X (σ j))):=by
    have:=hp.map φ;simpa[List.map_map,Function.comp_def]using this
   refine h1.trans (List.Perm.of_eq ?_)
   have h2:((List.range cnt).map λj=>φ (X (σ j)))=((List.range cnt).map σ).map (λi=>φ (X i)):=by simp[List.map_map,Function.comp_def]
   rw[h2,hσ];unfold gU;rw[List.filter_map];have h3:(List.range n).filter ((λt:Tm=>decide (t.1≠0))∘λi=>(z i,m i))=(List.range n).filter (λi=>decide (z i≠0)):=rfl;rw[h3];apply List.map_congr_left;intro i hi;exact hφ i (by simpa using(List.mem_filter.1 hi).1)
  ·rw[List.pairwise_map];refine(List.pairwise_lt_range (n:=cnt)).imp_of_mem ?_;intro i j hi hj kP;exact hs i j kP (by simpa using hj)
theorem qtq{n:Nat}{c0 c1:Nat->Value}{m:Nat->Mo}(h:∀i,i<n->∃b a q p,c0 i=.bool b/\c1 i=.slice a q p):∃X:Nat->TE,∀i,i<n->c0 i=.bool (X i).b/\c1 i=.slice (X i).a (X i).n (X i).p/\(X i).m=m i:=by
 refine⟨λi=>if hi:i<n then⟨Classical.choose (h i hi),Classical.choose (Classical.choose_spec (h i hi)),Classical.choose (Classical.choose_spec (Classical.choose_spec (h i hi))),Classical.choose (Classical.choose_spec (Classical.choose_spec (Classical.choose_spec (h i hi)))),m i⟩else default,λi hi=>?_⟩;have hs:=Classical.choose_spec (Classical.choose_spec (Classical.choose_spec (Classical.choose_spec (h i hi))));simp only[dif_pos hi];exact⟨hs.1,hs.2,trivial⟩
theorem qCa(x y:Nat->TE)(n:Nat)(h:∀i,i<n->x i=y i)(j:Nat)(hj:j<n*6):tx x j=tx y j:=by
 unfold tx mX;simp only[];rw[h (j/6) (by omega)]
theorem qqJ(x:Nat->TE)(n:Nat)(t:TE)(j:Nat)(hj:j<(n+1)*6):app (tx x) (n*6) (arr #[.bool t.b,.slice t.a t.n t.p,.int .i64 t.m.a,.int .i64 t.m.b,.int .i64 t.m.c,.int .i64 t.m.d]) j=tx (λi=>if i=n then t else x i) j:=by
 have h:=qqC (λi=>.bool (x i).b) (λi=>.slice (x i).a (x i).n (x i).p) (λi=>(x i).m) n t.m (.bool t.b) (.slice t.a t.n t.p) j hj;unfold tx;rw[h];unfold mX uf lS
 by_cases hn:j/6=n
 ·simp[hn]
 ·simp[hn]
theorem qo8(t:TE)(j:Nat)(hj:j<6):(arr #[.bool t.b,.slice t.a t.n t.p,.int .i64 t.m.a,.int .i64 t.m.b,.int .i64 t.m.c,.int .i64 t.m.d] j).oneCell'=true:=by
 match j,hj with
 |0,_=>rfl
 |1,_=>rfl
 |2,_=>rfl
 |3,_=>rfl
 |4,_=>rfl
 |5,_=>rfl
def Aa(z:Nat->Int)(k cnt:Nat)(σ:Nat->Nat):Prop:=(List.range cnt).map σ=(List.range k).filter (λi=>decide (z i≠0))
theorem Aa.len{z:Nat->Int}{k cnt:Nat}{σ:Nat->Nat}(h:Aa z k cnt σ):cnt<=k:=by
 have:=congrArg List.length h;simp only[List.length_map,List.length_range]at this;rw[this];exact aR (List.length_filter_le _ _) (by simp)
theorem Aa.skip{z:Nat->Int}{k cnt:Nat}{σ:Nat->Nat}(h:Aa z k cnt σ)(hz:z k=0):Aa z (k+1) cnt σ:=by
 unfold Aa at*;rw[h,List.range_succ,List.filter_append];simp[hz]
theorem Aa.take{z:Nat->Int}{k cnt:Nat}{σ:Nat->Nat}(h:Aa z k cnt σ)(hz:z k≠0):Aa z (k+1) (cnt+1) (λi=>if i=cnt then k else σ i):=by
 unfold Aa at*;rw[List.range_succ,List.range_succ,List.filter_append, <-h,List.map_append]
 congr 1
 ·apply List.map_congr_left;intro i hi
  have:i≠cnt:=by simp at hi;omega
  simp[this]
 ·simp[hz]
theorem qvx(M:Nat->Prop)(base g n:Nat)(z:Nat->Int)(m:Nat->Mo)(w:World)(hM:Mb M w)(hG:rE M base w g n z m)(fZ:Ga n m):
 Calls Tryz.prog 148 #[.pointer (some ⟨g,0,none⟩)] w λe w'=>∃v,e=.returned v/\AB M w.heap.size w' v (norm (gU n z m))/\Ext w w':=by
 obtain⟨i0,hi,hz0,hz1,hz2⟩:=info_parts Tryz.qdV;obtain⟨r,tv,c0,c1,hB,xQ,Hw,D8,BA,BB,tH,hO,hC,gH⟩:=hG;obtain⟨X,hX⟩:=qtq (m:=m) (λi hi=>(hC i hi).form)
 have HC:Hid (∀i,i<n->ek (GM M g r tv) w (.bool (X i).b) (.slice (X i).a (X i).n (X i).p) (z i)):=λi hi=>by
  have:=hC i hi;rw[(hX i hi).1,(hX i hi).2.1]at this;exact this
 have HXm:Hid (∀i,i<n->(X i).m=m i):=λi hi=>(hX i hi).2.2
 have hcell:∀i,i<n->∃tb cap,tv=.slice (some ⟨tb,0,none⟩) n cap/\tb<w.heap.size/\w.cell? ⟨tb,i*6,none⟩=some (.bool (X i).b)/\w.cell? ⟨tb,i*6+1,none⟩=some (.slice (X i).a (X i).n (X i).p)/\w.cell? ⟨tb,i*6+2,none⟩=some (.int .i64 (X i).m.a)/\w.cell? ⟨tb,i*6+3,none⟩=some (.int .i64 (X i).m.b)/\w.cell? ⟨tb,i*6+4,none⟩=some (.int .i64 (X i).m.c)/\w.cell? ⟨tb,i*6+5,none⟩=some (.int .i64 (X i).m.d):=by
  intro i hi;obtain⟨tb,cap,F,rfl,Fv,uz,Il,iB,hF⟩:=hO.some (by omega);have DZ:n*6<=cap*6:=eB _ Il;refine⟨tb,cap,rfl,uz.lt,?_,?_,?_,?_,?_,?_⟩
  ·rw[uz.cell (by omega),hF _ (by omega),OW,(hX i hi).1]
  ·rw[uz.cell (by omega),hF _ (by omega),OX,(hX i hi).2.1]
  ·rw[uz.cell (by omega),hF _ (by omega),TA,(hX i hi).2.2]
  ·rw[uz.cell (by omega),hF _ (by omega),TC,(hX i hi).2.2]
  ·rw[uz.cell (by omega),hF _ (by omega),TD,(hX i hi).2.2]
  ·rw[uz.cell (by omega),hF _ (by omega),TF,(hX i hi).2.2]
 have qrp:=ae hcell;have hlt:∀b,tv.ownBlock=some b->b<w.heap.size:=λb hb=>(hO.lt b hb).2;have Ak:=ae hlt;have fA:=hB.lt;have RX:=tH.lt;obtain⟨ta,tc,rfl⟩:=hO.form;have g1:=hB.cell (i:=1) (by omega);simp only[arr]at g1;have Al:=ae fZ;clear hcell hX hC fZ hlt hB hO tH
 go_enter Tryz.func148,Tryz.ntmps148
 go_wp2
 go_loopw [11,3] (λi v wr=>∃(k cnt:Nat)(σ:Nat->Nat),k<=n/\i=.int .i64 k/\Aa z k cnt σ/\Own wr w.heap.size 129 6 v cnt (tx λj=>X (σ j))/\Ext w wr) (λi _ _=>n-(intOf i).toNat)
 case atStart=>exact⟨0,0,λ_=>0,bK _,rfl,rfl,Own.nil _ _ _ _ _,aA _⟩
 case round=>
  obtain⟨k,cnt,σ,hk,rfl,qcL,hOr,dL⟩:=hrel;have qDX:=qcL.len;have Uf:=ae qcL;clear qcL;obtain⟨va,vc,rfl⟩:=hOr.form;have hsz:=dL.size
  by_cases hlt:k<n
  ·obtain⟨tb,cap,hta,Xk,x0,x1,x2,x3,x4,x5⟩:=qrp.out k hlt;simp only[Value.slice.injEq,true_and]at hta;obtain⟨rfl,rfl⟩:=hta;rw[<-dL.cell Xk]at x0 x1 x2 x3 x4 x5
   have qE9:tb<wr.heap.size:=by omega
   have Kt:=((HC.out k hlt).ext dL).fB;have HIk:=ae Kt;clear Kt;go_wp2_with (fail);have aT:Ext wr (wr.alloc (.cells #[.bool (X k).b,.slice (X k).a (X k).n (X k).p,.int .i64 (X k).m.a,.int .i64 (X k).m.b,.int .i64 (X k).m.c,.int .i64 (X k).m.d] 129)):=(aA wr).alloc _;have kM:=aG.bq wr #[.bool (X k).b,.slice (X k).a (X k).n (X k).p,.int .i64 (X k).m.a,.int .i64 (X k).m.b,.int .i64 (X k).m.c,.int .i64 (X k).m.d] 129 6 rfl;refine(IU _ _ (z k) _ (HIk.out.ext aT)).mono ?_;rintro e w1 ⟨rfl,az⟩;have iN:=aT.trans az;have Ko:=kM.ext az;have y0:=Ko.cell (i:=0) (by omega);have y1:=Ko.cell (i:=1) (by omega);have y2:=Ko.cell (i:=2) (by omega);have y3:=Ko.cell (i:=3) (by omega);have y4:=Ko.cell (i:=4) (by omega);have y5:=Ko.cell (i:=5) (by omega);simp only[arr]at y0 y1 y2 y3 y4 y5;have hO1:=hOr.ext iN;clear x0 x1 x2 x3 x4 x5 HIk kM Ko
   by_cases hz:z k=0
   ·have t0:((z k).sign !=0)=false:=by simp[hz]
    have t1:((z k).sign==0)=true:=by simp[hz]
    have HZ:=ae hz;clear hz;go_wp2
    go_roundw
    case rel=>exact⟨k+1,cnt,σ,by omega,by go_num,Uf.out.skip HZ.out,hO1,dL.trans iN⟩
    case measure=>simp[intOf];omega
   ·have t0:((z k).sign !=0)=true:=by simp[hz]
    have t1:((z k).sign==0)=false:=by simp[hz]
    have HZ:=ae hz;clear hz;have eU:=iN.size;have jV:=aG.bq w1 #[.bool (X k).b,.slice (X k).a (X k).n (X k).p,.int .i64 (X k).m.a,.int .i64 (X k).m.b,.int .i64 (X k).m.c,.int .i64 (X k).m.d] 129 6 rfl;have oq:=hO1.ext ((aA w1).alloc (.cells #[.bool (X k).b,.slice (X k).a (X k).n (X k).p,.int .i64 (X k).m.a,.int .i64 (X k).m.b,.int .i64 (X k).m.c,.int .i64 (X k).m.d] 129));have Ip:=qo8 (X k);have Am:=ae Ip;clear Ip
    go_wp2_with (at_builtin;refine TT _ rfl (.tmp 19) (.tmp 21) _ rfl w.heap.size 129 i0 _ 6 64 Tryz.underlying71 hi hz0 hz1 hz2 rfl (by omega) (.slice va cnt vc) cnt (tx λj=>X (σ j)) rfl oq w1.heap.size 129 1 (arr #[.bool (X k).b,.slice (X k).a (X k).n (X k).p,.int .i64 (X k).m.a,.int .i64 (X k).m.b,.int .i64 (X k).m.c,.int .i64 (X k).m.d]) rfl jV Am.out ?s1 ?s2 ?s3 ?_)
    case s1=>unfold maxLen;omega
    case s2=>omega
    case s3=>simp;omega
    intro gg cap2 w2 l9 fG hat KO;have lK:Ext w w2:=((dL.trans iN).alloc _).grown fG (λq hq=>(oq.lt q hq).1)
    have wN:=l9.congr (f':=tx λj=>X (if j=cnt then k else σ j)) (λj hj=>by
     rw[qqJ _ _ _ _ hj]
     exact qCa _ _ (cnt+1) (λi _=>by by_cases h:i=cnt<;>simp[h]) j hj)
    clear l9 oq jV fG hat;go_wp2
    go_roundw
    case rel=>exact⟨k+1,cnt+1,_,by omega,by go_num,Uf.out.take HZ.out,wN,lK⟩
    case measure=>simp[intOf];omega
  ·have:k=n:=by omega
   subst this;clear hlt
   have qkI:∀(v:Value),(∀b,v.ownBlock=some b->w.heap.size<=b)->∀b,MR M v b->GM M g r (.slice ta k tc) b\/w.heap.size<=b:=by
    intro v hv b hb;rcases hb with hb|hb
    ·exact .inl (.inl hb)
    ·exact .inr (hv b hb)
   have qrI:=ae qkI;clear qkI;rcases hOr with⟨IB,rfl⟩|⟨gg,cap,F,IB,qcE,hBg,Il,iB,hF⟩
   ·simp only[Value.slice.injEq,true_and]at IB;obtain⟨rfl,rfl⟩:=IB;obtain⟨τ,hτ,Io⟩:=qqs Al.out X X HXm.out σ Uf.out (by simp) (by intro i j kP hj;omega);have hres:AB M w.heap.size wr (.slice none 0 0) (norm (gU k z m)):=⟨0,λj=>z (τ j),X,.inl ⟨rfl,rfl⟩,λi hi=>by omega,Io,by omega,λq hq=>by simp[Value.ownBlock]at hq⟩;clear hτ Io;go_wp2_with (fail);refine(qBz _ _).mono ?_;rintro e w1 ⟨rfl,rfl⟩;go_wp2;go_ret;exact⟨_,rfl,hres,dL⟩
   ·simp only[Value.slice.injEq,true_and]at IB;obtain⟨rfl,rfl⟩:=IB;have bf:=qBy hBg Il (by omega) hF;have aW:=ae bf;clear bf hF;go_wp2_with (fail);refine aW.out.mono ?_;rintro e w1 ⟨rfl,x',F',hB',hF',RO,Xh,Rn⟩;have iN:Ext w w1:=dL.grown Rn (λq hq=>by cases hq;exact qcE);obtain⟨τ,hτ,Io⟩:=qqs Al.out X x' HXm.out σ Uf.out RO Xh
    have hres:AB M w.heap.size w1 (.slice (some ⟨gg,0,none⟩) cnt vc) (norm (gU k z m)):=by
     refine⟨cnt,λj=>z (τ j),x',.inr ⟨gg,vc,F',rfl,qcE,hB',Il,iB,hF'⟩,λi hi=>?_,Io,by omega,λq hq hm=>?_⟩
     ·rw[(hτ i hi).2];exact((HC.out (τ i) (hτ i hi).1).more (qrI.out _ (λb hb=>by simp only[Value.ownBlock,Option.some.injEq]at hb;subst hb;exact qcE))).ext iN
     ·simp only[Value.ownBlock,Option.some.injEq]at hq;subst hq;have:=hM _ hm;omega
    clear hτ Io Xh RO hF' hB';go_wp2;go_ret;exact⟨_,rfl,hres,iN⟩
theorem qvu(M:Nat->Prop)(w:World):
 Calls Tryz.prog 146 #[] w λe w'=>e=.returned (.pointer (some ⟨w.heap.size+1,0,none⟩))/\rE M w.heap.size w' (w.heap.size+1) 0 (λ_=>0) (λ_=>⟨0,0,0,0⟩)/\Ext w w':=by
 have hmm:= @run_makeMap Tryz.prog
 go_enter Tryz.func146,Tryz.ntmps146
 go_wp2;go_ret;refine⟨rfl,⟨w.heap.size,.slice none 0 0,λ_=>.bool false,λ_=>.bool false,?_,by omega,aI _,by omega,by simp[Value.ownBlock],by simp[Value.ownBlock],?_,Own.nil _ _ _ _ _,λi hi=>by omega,by omega⟩,((aA w).alloc _).alloc _⟩
 ·have:=aG.bq (w.alloc (.map #[] 0)) #[.map (some w.heap.size),.slice none 0 0] 190 2 rfl;simpa using this
 ·unfold pO;rw[Below.heap_alloc _ _ _ (by simp),heap_alloc_new];rfl
theorem Jj(n:Nat)(z:Nat->Int)(m:Nat->Mo):gU (n+1) z m=gU n z m++[(z n,m n)]:=by
 unfold gU;rw[List.range_succ,List.map_append];rfl
theorem qeY{n:Nat}{z z':Nat->Int}{m m':Nat->Mo}(h:∀i,i<n->z i=z' i/\m i=m' i):gU n z m=gU n z' m':=by
 unfold gU;apply List.map_congr_left;intro i hi;have:=h i (by simpa using hi);rw[this.1,this.2]
theorem qB0(n i:Nat)(z:Nat->Int)(m:Nat->Mo)(c:Int)(hi:i<n)(q:Mo):aL (gU n (λj=>if j=i then z j+c else z j) m) q=aL (gU n z m) q+(if m i=q then c else 0):=by
 induction n with
 |zero=>omega
 |succ n ih=>
  rw[Jj,Jj,iZ,iZ]
  by_cases hn:i=n
  ·subst hn;rw[qeY (z':=z) (m':=m) (λj hj=>⟨ah (by omega),rfl⟩)];simp only[aL,if_true]
   split<;>omega
  ·rw[ih (by omega)];simp only[aL,ah (λe=>hn e.symm:¬n=i)];omega
theorem qB1(n i:Nat)(z:Nat->Int)(m:Nat->Mo)(c:Int)(hi:i<n):aK (gU n (λj=>if j=i then z j+c else z j) m)<=aK (gU n z m)+c.natAbs:=by
 induction n with
 |zero=>omega
 |succ n ih=>
  rw[Jj,Jj,lN,lN]
  by_cases hn:i=n
  ·subst hn;rw[qeY (z':=z) (m':=m) (λj hj=>⟨ah (by omega),rfl⟩)];simp only[aK,if_true];omega
  ·have:=ih (by omega);simp only[aK,ah (λe=>hn e.symm:¬n=i)];omega
theorem qqE(n:Nat)(z:Nat->Int)(m:Nat->Mo)(c:Int)(k:Mo):gU (n+1) (λj=>if j=n then c else z j) (lS m n k)=gU n z m++[(c,k)]:=by
 rw[Jj]
 congr 1
 ·exact qeY λi hi=>⟨ah (by omega),by unfold lS;rw[ah (by omega)]⟩
 ·simp[lS]
theorem qzG(n i:Nat)(z:Nat->Int)(m:Nat->Mo)(hi:i<n):(z i).natAbs<=aK (gU n z m):=
 qzH (t:=(z i,m i)) (List.mem_map.2 ⟨i,List.mem_range.2 hi,rfl⟩)
theorem qvs(M:Nat->Prop)(base g n:Nat)(z:Nat->Int)(m:Nat->Mo)(k:Mo)(d0 d1:Value)(c:Int)(w:World)(hM:Mb M w)(hG:rE M base w g n z m)(fZ:Ga n m)(Dy:dQ (λb=>M b\/ug w g b) w d0 d1 c)
 (hn:n+1<=1099511627776) (hL:aH (aK (gU n z m)+c.natAbs)<=1099511627776):
 Calls Tryz.prog 147 #[.pointer (some ⟨g,0,none⟩),lL k,.agg #[d0,d1]] w λe w'=>e=.returned (.tuple #[])/\∃n' z' m',rE M base w' g n' z' m'/\Ga n' m'/\n'<=n+1/\
  aK (gU n' z' m')<=aK (gU n z m)+c.natAbs/\(∀q,aL (gU n' z' m') q=aL (gU n z m) q+(if k.nn=true then(if k=q then c else 0)else 0))/\Below base w w'/\Fr g w w':=by
 have hI:dQ M w d0 d1 c:=Dy.more (λb hb=>.inl (.inl hb))
 have jE:base<=w.heap.size:=by have:=hG.lt;omega
 by_cases j6:k.nn=true
 ·by_cases hex:∃i,i<n/\m i=k
  ·obtain⟨i,hi,hk⟩:=hex;refine(qvt M base g n z m k d0 d1 c w hM hI hG Dy j6 i hi hk (λj hj e=>fZ.1 j i hj hi (e.trans hk.symm)) (aR (jB ?_) hL)).mono ?_
   ·have:=qzG n i z m hi;omega
   ·rintro e w' ⟨rfl,hG',hb⟩;refine⟨rfl,n,_,m,hG',fZ,by omega,qB1 n i z m c hi,λq=>?_,hb⟩;rw[qB0 n i z m c hi q,hk,ai j6]
  ·refine(qvw M base g n z m k d0 d1 c w hM hI hG Dy j6 (λj hj e=>hex ⟨j,hj,e⟩) hn).mono ?_;rintro e w' ⟨rfl,hG',hb⟩;refine⟨rfl,n+1,_,_,hG',⟨λi j kP hj=>?_,λi hi=>?_⟩,aI _,?_,λq=>?_,hb⟩
   ·unfold lS
    by_cases Rv:j=n
    ·rw[ah (by omega),ai Rv];exactλe=>hex ⟨i,by omega,e⟩
    ·rw[ah (by omega),ah Rv];exact fZ.1 i j kP (by omega)
   ·unfold lS
    by_cases qI:i=n
    ·rw[ai qI];exact j6
    ·rw[ah qI];exact fZ.2 i (by omega)
   ·rw[qqE,lN];simp[aK]
   ·rw[qqE,iZ,ai j6];simp[aL]
 ·refine(qvv M base g k d0 d1 c w hI (by simpa using j6)).mono ?_;rintro e w' ⟨rfl,he⟩;exact⟨rfl,n,z,m,hG.ext he,fZ,by omega,by omega,λq=>by rw[ah j6];omega,QH he jE,Fr.kV hG.lt.2 he⟩
def qiA(M:Nat->Prop)(w:World)(v:Value)(n:Nat)(c0 c1:Nat->Value)(m:Nat->Mo):Prop:=
 n<=1099511627776/\(((∃a cap,v=.slice a 0 cap/\cap<=maxLen)/\n=0)\/∃b off cap,v=.slice (some ⟨b,off,none⟩) n cap/\n<=cap/\cap<=maxLen/\(b<w.heap.size/\¬M b)/\∀i,i<n->w.cell? ⟨b,off+i*6,none⟩=some (c0 i)/\w.cell? ⟨b,off+i*6+1,none⟩=some (c1 i)/\
  w.cell? ⟨b,off+i*6+2,none⟩=some (.int .i64 (m i).a)/\w.cell? ⟨b,off+i*6+3,none⟩=some (.int .i64 (m i).b)/\w.cell? ⟨b,off+i*6+4,none⟩=some (.int .i64 (m i).c)/\w.cell? ⟨b,off+i*6+5,none⟩=some (.int .i64 (m i).d))
def Qg(M:Nat->Prop)(w:World)(v:Value)(l:List Tm):Prop:=
 ∃(n:Nat)(z:Nat->Int)(m:Nat->Mo)(c0 c1:Nat->Value),qiA M w v n c0 c1 m/\l=gU n z m/\∀i,i<n->dQ M w (c0 i) (c1 i) (z i)
def qii(M:Nat->Prop)(w:World)(v:Value)(l:List Tm):Prop:=
 ∃(n:Nat)(z:Nat->Int)(m:Nat->Mo)(c0 c1:Nat->Value),qiA (λ_=>False) w v n c0 c1 m/\l=gU n z m/\∀i,i<n->dQ M w (c0 i) (c1 i) (z i)
theorem Qg.w{M:Nat->Prop}{w:World}{v:Value}{l:List Tm}(h:Qg M w v l):qii M w v l:=by
 obtain⟨n,z,m,c0,c1,⟨gH,hrow⟩,h1,h2⟩:=h;refine⟨n,z,m,c0,c1,⟨gH,?_⟩,h1,h2⟩;rcases hrow with hrow|⟨b,off,cap,hv,hn,hc,hb,hcell⟩
 ·exact .inl hrow
 ·exact .inr ⟨b,off,cap,hv,hn,hc,⟨hb.1,λh=>h⟩,hcell⟩
theorem qB3(n k:Nat)(z:Nat->Int)(m:Nat->Mo)(h:k<=n):∃r,gU n z m=gU k z m++r:=by
 obtain⟨j,rfl⟩:∃j,n=k+j:=⟨n-k,by omega⟩;unfold gU;rw[List.range_add,List.map_append];exact⟨_,rfl⟩
theorem AB.base{M:Nat->Prop}{B B':Nat}{w:World}{v:Value}{l:List Tm}(h:AB M B w v l)(hb:B'<=B):AB M B' w v l:=by
 obtain⟨n,z,x,h1,h2,h3,h4,h5⟩:=h;refine⟨n,z,x,?_,h2,h3,h4,h5⟩;rcases h1 with h1|⟨g,cap,F,hv,hg,r⟩
 ·exact .inl h1
 ·exact .inr ⟨g,cap,F,hv,aR hb hg,r⟩
theorem qBx(M:Nat->Prop)(v:Value)(l:List Tm)(w:World)(hM:Mb M w)(hP:qii M w v l)(hL:aH (aK l)<=1099511627776):
 Calls Tryz.prog 100 #[v] w λe w'=>∃u,e=.returned u/\AB M w.heap.size w' u (norm l)/\Ext w w':=by
 obtain⟨n,z,m,c0,c1,⟨gH,hrow⟩,rfl,hI⟩:=hP;have HI:=ae hI;have qsq:=ae hrow
 obtain⟨va,vc,rfl⟩:∃a cap,v=.slice a n cap:=by
  rcases hrow with⟨⟨_,_,rfl,_⟩,rfl⟩|⟨b,off,cap,rfl,_⟩
  ·exact⟨_,_,rfl⟩
  ·exact⟨_,_,rfl⟩
 have HL:=ae hL;clear hI hrow hL
 go_enter Tryz.func100,Tryz.ntmps100
 go_wp2_with (fail);refine(qvu M w).mono ?_;rintro e w1 ⟨rfl,hG,az⟩;go_wp2
 go_loopw [9] (λi wr=>∃(k n':Nat)(z':Nat->Int)(m':Nat->Mo),k<=n/\i=.int .i64 k/\rE M w.heap.size wr (w.heap.size+1) n' z' m'/\Ga n' m'/\n'<=k/\Hid (aK (gU n' z' m')<=aK (gU k z m))/\Hid (∀q,aL (gU n' z' m') q=sD (gU k z m) q)/\Ext w wr) (λi _=>n-(intOf i).toNat)
 case atStart=>exact⟨0,0,_,_,bK _,rfl,hG,⟨λi j _ h=>by omega,λi h=>by omega⟩,aI _,aI _,λq=>by simp[gU,aL,sD],az⟩
 case round=>
  clear hG az;obtain⟨k,n',z',m',hk,rfl,hG,fZ,Br,HN,HQ,dL⟩:=hrel;have Al:=ae fZ;clear fZ;have hsz:=dL.size
  by_cases hlt:k<n
  ·rcases qsq.out with⟨_,h0⟩|⟨b,off,cap,hv,Hz,hm,hb,Re⟩
   ·omega
   simp only[Value.slice.injEq,true_and]at hv;obtain⟨rfl,rfl⟩:=hv;obtain⟨x0,x1,x2,x3,x4,x5⟩:=Re k hlt;clear Re;have Kt:=HI.out k hlt;obtain⟨b1,a1,n1,p1,e0,e1⟩:=Kt.form;rw[e0,e1]at Kt;rw[e0]at x0;rw[e1]at x1;rw[<-dL.cell hb.1]at x0 x1 x2 x3 x4 x5
   have jE:b<wr.heap.size:=by omega
   have Dy:dQ (λb=>M b\/w.heap.size<=b) wr (.bool b1) (.slice a1 n1 p1) (z k):=(Kt.more (λb hb=>hb)).ext dL;have HIG:=ae Dy
   have hLk:aH (aK (gU n' z' m')+(z k).natAbs)<=1099511627776:=by
    refine aR (jB ?_) HL.out;obtain⟨r,hr⟩:=qB3 n (k+1) z m (by omega);rw[hr,lN,Jj,lN];have:=HN.out;simp[aK];omega
   have qni:∀q,sD (gU (k+1) z m) q=sD (gU k z m) q+(if(m k).nn=true then(if m k=q then z k else 0)else 0):=by
    intro q;unfold sD;rw[Jj,iZ]
    by_cases hq:q.nn=true
    ·rw[ai hq,ai hq];simp only[aL]
     by_cases Xb:m k=q
     ·rw[ai Xb,ai (by rw[Xb];exact hq)];omega
     ·rw[ah Xb];split<;>simp[Xb]
    ·rw[ah hq,ah hq]
     by_cases hmk:(m k).nn=true
     ·rw[ai hmk,ah (λ(e:m k=q)=>hq (e ▸ hmk))];omega
     ·rw[ah hmk];omega
   have qsA:=ae qni;have HLK:=ae hLk;clear qni hLk Dy Kt e0 e1;go_wp2_with (fail);refine(qvs M w.heap.size (w.heap.size+1) n' z' m' (m k) _ _ (z k) _ (hM.size (by simp;omega)) (hG.ext ((aA wr).alloc _)) Al.out ((HIG.out.ext ((aA wr).alloc _)).more (λb hb=>.inl (hb.imp id (λh=>(hG.yT (h.ext ((aA wr).alloc _) hG.lt.2)).1)))) (by omega) HLK.out).mono ?_;rintro e w2 ⟨rfl,n2,z2,m2,Dw,qmX,mg,hN2,Fg,jR,_⟩;have lK:Ext w w2:=Below.trans (Ext.below (dL.alloc _)) jR;have qsg:=ae qmX
   have PQ:Hid (aK (gU n2 z2 m2)<=aK (gU (k+1) z m)):=by
    show _<=_;rw[Jj,lN];have:=HN.out;simp[aK];omega
   have qy:Hid (∀q,aL (gU n2 z2 m2) q=sD (gU (k+1) z m) q):=λq=>by rw[Fg q,HQ.out q,qsA.out q]
   clear qmX hN2 Fg jR x0 x1 x2 x3 x4 x5;go_wp2
   go_roundw
   case rel=>exact⟨k+1,n2,z2,m2,by omega,by go_num,Dw,qsg.out,by omega,PQ,qy,lK⟩
   case measure=>simp[intOf];omega
  ·have:k=n:=by omega
   subst this
   have Io:norm (gU n' z' m')=norm (gU k z m):=by
    refine norm_eq (sF _) (λq=>?_);rw[OC];unfold sD
    by_cases hq:q.nn=true
    ·rw[ai hq,HQ.out q];unfold sD;rw[ai hq]
    ·rw[ah hq,ah hq]
   have qr9:=ae Io;clear Io;go_wp2_with (fail);refine(qvx M w.heap.size (w.heap.size+1) n' z' m' _ (hM.size hsz) hG Al.out).mono ?_;rintro e w2 ⟨u,rfl,hu,aJ⟩;rw[qr9.out]at hu;go_wp2;go_ret;refine⟨u,rfl,?_,dL.trans aJ⟩;exact hu.base hsz
theorem qBw(M:Nat->Prop)(v:Value)(l:List Tm)(w:World)(hM:Mb M w)(hP:Qg M w v l)(hL:aH (aK l)<=1099511627776):
 Calls Tryz.prog 100 #[v] w λe w'=>∃u,e=.returned u/\AB M w.heap.size w' u (norm l)/\Ext w w':=qBx M v l w hM hP.w hL
def o6(M:Nat->Prop)(w:World)(v:Value)(n:Nat)(z:Nat->Int)(x:Nat->TE):Prop:=
 n<=1099511627776/\(((∃a cap,v=.slice a 0 cap/\cap<=maxLen)/\n=0)\/∃b off cap,v=.slice (some ⟨b,off,none⟩) n cap/\n<=cap/\cap<=maxLen/\(b<w.heap.size/\¬M b)/\∀i,i<n->w.cell? ⟨b,off+i*6,none⟩=some (.bool (x i).b)/\w.cell? ⟨b,off+i*6+1,none⟩=some (.slice (x i).a (x i).n (x i).p)/\
  w.cell? ⟨b,off+i*6+2,none⟩=some (.int .i64 (x i).m.a)/\w.cell? ⟨b,off+i*6+3,none⟩=some (.int .i64 (x i).m.b)/\w.cell? ⟨b,off+i*6+4,none⟩=some (.int .i64 (x i).m.c)/\w.cell? ⟨b,off+i*6+5,none⟩=some (.int .i64 (x i).m.d))/\
 ∀i,i<n->dQ M w (.bool (x i).b) (.slice (x i).a (x i).n (x i).p) (z i)
def eZ(n:Nat)(z:Nat->Int)(x:Nat->TE):List Tm:=(List.range n).map λi=>(z i,(x i).m)
theorem o6.v{M:Nat->Prop}{w:World}{v:Value}{n:Nat}{z:Nat->Int}{x:Nat->TE}(h:o6 M w v n z x):Qg M w v (eZ n z x):=by
 obtain⟨hn,hrow,hI⟩:=h;exact⟨n,z,λi=>(x i).m,λi=>.bool (x i).b,λi=>.slice (x i).a (x i).n (x i).p,⟨hn,hrow⟩,rfl,hI⟩
theorem o6.kp{M:Nat->Prop}{w w':World}{v:Value}{n:Nat}{z:Nat->Int}{x:Nat->TE}(h:o6 M w v n z x)(he:Kp M w w'):o6 M w' v n z x:=by
 obtain⟨hn,hrow,hI⟩:=h;refine⟨hn,?_,λi hi=>(hI i hi).kp he⟩;rcases hrow with h|⟨b,off,cap,hv,h1,h2,h3,h4⟩
 ·exact .inl h
 ·refine .inr ⟨b,off,cap,hv,h1,h2,⟨dH h3.1 he.1,h3.2⟩,λi hi=>?_⟩;rw[he.cell h3.1 h3.2,he.cell h3.1 h3.2,he.cell h3.1 h3.2,he.cell h3.1 h3.2,he.cell h3.1 h3.2,he.cell h3.1 h3.2];exact h4 i hi
theorem o6.ext{M:Nat->Prop}{w w':World}{v:Value}{n:Nat}{z:Nat->Int}{x:Nat->TE}(h:o6 M w v n z x)(he:Ext w w'):o6 M w' v n z x:=h.kp (Kp.kV he)
theorem o6.more{M M':Nat->Prop}{w:World}{v:Value}{n:Nat}{z:Nat->Int}{x:Nat->TE}(h:o6 M w v n z x)(hm:∀g,M' g->M g\/w.heap.size<=g):o6 M' w v n z x:=by
 obtain⟨hn,hrow,hI⟩:=h;refine⟨hn,?_,λi hi=>(hI i hi).more hm⟩;rcases hrow with h|⟨b,off,cap,hv,h1,h2,h3,h4⟩
 ·exact .inl h
 ·exact .inr ⟨b,off,cap,hv,h1,h2,⟨h3.1,λk=>(hm b k).elim h3.2 (by omega)⟩,h4⟩
theorem AB.x{M:Nat->Prop}{B:Nat}{w:World}{v:Value}{l:List Tm}(h:AB M B w v l):∃n z x,o6 M w v n z x/\l=eZ n z x/\∀i,i<n->ek M w (.bool (x i).b) (.slice (x i).a (x i).n (x i).p) (z i):=by
 obtain⟨n,z,x,hO,hI,rfl,hn,hM⟩:=h;refine⟨n,z,x,⟨hn,?_,λi hi=>((hI i hi).more (λb hb=>.inl (.inl hb))).fB⟩,rfl,λi hi=>(hI i hi).more (λb hb=>.inl (.inl hb))⟩;rcases hO with h|⟨g,cap,F,rfl,hb,hB,h1,h2,hF⟩
 ·exact .inl ⟨⟨none,0,h.1,bK _⟩,h.2⟩
 ·have DZ:n*6<=cap*6:=eB _ h1;refine .inr ⟨g,0,cap,rfl,h1,h2,⟨hB.lt,hM g rfl⟩,λi hi=>?_⟩;simp only[Nat.zero_add];rw[hB.cell (by omega),hB.cell (by omega),hB.cell (by omega),hB.cell (by omega),hB.cell (by omega),hB.cell (by omega),hF _ (by omega),hF _ (by omega),hF _ (by omega),hF _ (by omega),hF _ (by omega),hF _ (by omega)];unfold tx;rw[OW,OX,TA,TC,TD,TF];exact⟨rfl,rfl,rfl,rfl,rfl,rfl⟩
theorem o6.form{M:Nat->Prop}{w:World}{v:Value}{n:Nat}{z:Nat->Int}{x:Nat->TE}(h:o6 M w v n z x):∃a cap,v=.slice a n cap:=by
 obtain⟨_,h|⟨b,off,cap,rfl,_⟩,_⟩:=h
 ·obtain⟨⟨_,_,rfl,_⟩,rfl⟩:=h;exact⟨_,_,rfl⟩
 ·exact⟨_,_,rfl⟩
theorem o6.at{M:Nat->Prop}{w:World}{a:Option Addr}{cap n:Nat}{z:Nat->Int}{x:Nat->TE}(h:o6 M w (.slice a n cap) n z x)(k:Nat)(hk:k<n):∃b off,a=some ⟨b,off,none⟩/\n<=cap/\cap<=maxLen/\b<w.heap.size/\w.cell? ⟨b,off+k*6,none⟩=some (.bool (x k).b)/\w.cell? ⟨b,off+k*6+1,none⟩=some (.slice (x k).a (x k).n (x k).p)/\
 w.cell? ⟨b,off+k*6+2,none⟩=some (.int .i64 (x k).m.a)/\w.cell? ⟨b,off+k*6+3,none⟩=some (.int .i64 (x k).m.b)/\w.cell? ⟨b,off+k*6+4,none⟩=some (.int .i64 (x k).m.c)/\w.cell? ⟨b,off+k*6+5,none⟩=some (.int .i64 (x k).m.d):=by
 obtain⟨_,h|⟨b,off,cap',hv,h1,h2,h3,h4⟩,_⟩:=h
 ·omega
 ·simp only[Value.slice.injEq,true_and]at hv;obtain⟨rfl,rfl⟩:=hv;exact⟨b,off,rfl,h1,h2,h3.1,h4 k hk⟩
theorem qfe(n:Nat)(z:Nat->Int)(x:Nat->TE):eZ (n+1) z x=eZ n z x++[(z n,(x n).m)]:=by
 unfold eZ;rw[List.range_succ,List.map_append];rfl
theorem TW(n:Nat)(z:Nat->Int)(x:Nat->TE):(eZ n z x).length=n:=by simp[eZ]
end Go.Proofs.YtmcfpnmoklnhoaaGreat
