/- Mc -/
import Derived.Shelf.SlSortCmp.WholeK
import Derived.Test.YtaafefeafonhdaaGreatMo
set_option linter.unusedVariables false
set_option maxRecDepth 100000
set_option maxHeartbeats 400000000
set_option linter.unusedSimpArgs false
namespace Go.Proofs
open Go.Shelf
def Tryz.qBH:Go.Shelf.Ren:=⟨λ |14=>146|20=>159|21=>160|22=>161|23=>162|24=>163|25=>164|26=>165|27=>166|46=>169|47=>150|48=>151|49=>170|50=>171|15=>95|57=>173|28=>128|29=>129|n=>n,λ |24=>78|22=>35|3=>3|25=>130|4=>4|0=>0|46=>158|45=>157|50=>151|66=>179|39=>127|55=>100|70=>183|76=>191|77=>192|53=>140|5=>5|9=>9|n=>n,λ |n=>n⟩
theorem Tryz.pdqTerm:Go.Proofs.SlLaysF0.n14 Tryz.prog Tryz.qBH:={
 mixed:=by kernel_rfl
 f14:=⟨Tryz.f146.name,by decide,Tryz.func146.trans (congrArg some (by kernel_rfl))⟩
 f15:=Tryz.func95.trans (congrArg some (by kernel_rfl))
 f20:=⟨Tryz.f159.name,by decide,Tryz.func159.trans (congrArg some (by kernel_rfl))⟩
 f21:=⟨Tryz.f160.name,by decide,Tryz.func160.trans (congrArg some (by kernel_rfl))⟩
 f22:=⟨Tryz.f161.name,by decide,Tryz.func161.trans (congrArg some (by kernel_rfl))⟩
 f23:=⟨Tryz.f162.name,by decide,Tryz.func162.trans (congrArg some (by kernel_rfl))⟩
 f24:=⟨Tryz.f163.name,by decide,Tryz.func163.trans (congrArg some (by kernel_rfl))⟩
 f25:=⟨Tryz.f164.name,by decide,Tryz.func164.trans (congrArg some (by kernel_rfl))⟩
 f26:=⟨Tryz.f165.name,by decide,Tryz.func165.trans (congrArg some (by kernel_rfl))⟩
 f27:=⟨Tryz.f166.name,by decide,Tryz.func166.trans (congrArg some (by kernel_rfl))⟩
 f28:=Tryz.func128.trans (congrArg some (by kernel_rfl))
 f29:=Tryz.func129.trans (congrArg some (by kernel_rfl))
 f46:=⟨Tryz.f169.name,by decide,Tryz.func169.trans (congrArg some (by kernel_rfl))⟩
 f47:=Tryz.func150.trans (congrArg some (by kernel_rfl))
 f48:=Tryz.func151.trans (congrArg some (by kernel_rfl))
 f49:=⟨Tryz.f170.name,by decide,Tryz.func170.trans (congrArg some (by kernel_rfl))⟩
 f50:=⟨Tryz.f171.name,by decide,Tryz.func171.trans (congrArg some (by kernel_rfl))⟩
 f57:=⟨Tryz.f173.name,by decide,Tryz.func173.trans (congrArg some (by kernel_rfl))⟩
 t0:=Tryz.underlying0
 a0:=Tryz.isAgg0
 z0:=Tryz.sizeOf0
 v0:=Tryz.zeroValue0
 t3:=Tryz.underlying3
 a3:=Tryz.isAgg3
 z3:=Tryz.sizeOf3
 v3:=Tryz.zeroValue3
 t4:=Tryz.underlying4
 a4:=Tryz.isAgg4
 z4:=Tryz.sizeOf4
 v4:=Tryz.zeroValue4
 t5:=Tryz.underlying5
 a5:=Tryz.isAgg5
 z5:=Tryz.sizeOf5
 v5:=Tryz.zeroValue5
 t9:=Tryz.underlying9
 a9:=Tryz.isAgg9
 z9:=Tryz.sizeOf9
 v9:=Tryz.zeroValue9
 t22:=Tryz.underlying35
 a22:=Tryz.isAgg35
 z22:=Tryz.sizeOf35
 v22:=Tryz.zeroValue35
 t25:=Tryz.underlying130
 a25:=Tryz.isAgg130
 z25:=Tryz.sizeOf130
 v25:=Tryz.zeroValue130
 t39:=Tryz.underlying127
 a39:=Tryz.isAgg127
 z39:=Tryz.sizeOf127
 v39:=Tryz.zeroValue127
 t45:=Tryz.underlying157
 a45:=Tryz.isAgg157
 z45:=Tryz.sizeOf157
 v45:=Tryz.zeroValue157
 t46:=Tryz.underlying158
 a46:=Tryz.isAgg158
 z46:=Tryz.sizeOf158
 v46:=Tryz.zeroValue158
 t50:=Tryz.underlying151
 a50:=Tryz.isAgg151
 z50:=Tryz.sizeOf151
 v50:=Tryz.zeroValue151
 t53:=Tryz.underlying140
 a53:=Tryz.isAgg140
 z53:=Tryz.sizeOf140
 v53:=Tryz.zeroValue140
 t55:=Tryz.underlying100
 a55:=Tryz.isAgg100
 z55:=Tryz.sizeOf100
 v55:=Tryz.zeroValue100
 t66:=Tryz.underlying179
 a66:=Tryz.isAgg179
 z66:=Tryz.sizeOf179
 v66:=Tryz.zeroValue179
 t70:=Tryz.underlying183
 a70:=Tryz.isAgg183
 z70:=Tryz.sizeOf183
 v70:=Tryz.zeroValue183
 t76:=Tryz.underlying191
 a76:=Tryz.isAgg191
 z76:=Tryz.sizeOf191
 v76:=Tryz.zeroValue191
 t77:=Tryz.underlying192
 a77:=Tryz.isAgg192
 z77:=Tryz.sizeOf192
 v77:=Tryz.zeroValue192}
def Tryz.qtY:Go.Shelf.Ren:=⟨λ |125=>95|128=>128|129=>129|n=>n,λ |46=>127|3=>3|51=>140|53=>100|4=>4|5=>5|9=>9|n=>n,λ |n=>n⟩
theorem Tryz.bitsLen:Go.Proofs.Lays.n125 Tryz.prog Tryz.qtY:={
 mixed:=by kernel_rfl
 f125:=Tryz.func95.trans (congrArg some (by kernel_rfl))
 f128:=Tryz.func128.trans (congrArg some (by kernel_rfl))
 f129:=Tryz.func129.trans (congrArg some (by kernel_rfl))
 t3:=Tryz.underlying3
 a3:=Tryz.isAgg3
 z3:=Tryz.sizeOf3
 v3:=Tryz.zeroValue3
 t4:=Tryz.underlying4
 a4:=Tryz.isAgg4
 z4:=Tryz.sizeOf4
 v4:=Tryz.zeroValue4
 t5:=Tryz.underlying5
 a5:=Tryz.isAgg5
 z5:=Tryz.sizeOf5
 v5:=Tryz.zeroValue5
 t9:=Tryz.underlying9
 a9:=Tryz.isAgg9
 z9:=Tryz.sizeOf9
 v9:=Tryz.zeroValue9
 t46:=Tryz.underlying127
 a46:=Tryz.isAgg127
 z46:=Tryz.sizeOf127
 v46:=Tryz.zeroValue127
 t51:=Tryz.underlying140
 a51:=Tryz.isAgg140
 z51:=Tryz.sizeOf140
 v51:=Tryz.zeroValue140
 t53:=Tryz.underlying100
 a53:=Tryz.isAgg100
 z53:=Tryz.sizeOf100
 v53:=Tryz.zeroValue100}
end Go.Proofs
namespace Go.Proofs.YtaafefeafonhdaaGreat
open Go.RowKit
structure TE where
 b:Bool
 a:Option Addr
 n:Nat
 p:Nat
 m:Mo
instance:Inhabited TE:=⟨⟨false,none,0,0,⟨0,0,0,0⟩⟩⟩
def zF(x:TE):List Value:=[.bool x.b,.slice x.a x.n x.p,.int .i64 x.m.a,.int .i64 x.m.b,.int .i64 x.m.c,.int .i64 x.m.d]
def tx(x:Nat->TE):Nat->Value:=lG (λi=>.bool (x i).b) (λi=>.slice (x i).a (x i).n (x i).p) (λi=>(x i).m)
def Cs(x y:TE):Int:=nL y.m x.m
theorem qDt(x y:TE)(w:World):Calls Tryz.prog 116 #[.agg #[.bool x.b,.slice x.a x.n x.p,.int .i64 x.m.a,.int .i64 x.m.b,.int .i64 x.m.c,.int .i64 x.m.d],.agg #[.bool y.b,.slice y.a y.n y.p,.int .i64 y.m.a,.int .i64 y.m.b,.int .i64 y.m.c,.int .i64 y.m.d]] w λe w'=>e=.returned (.int .i64 (Cs x y))/\Gr w w':=by
 have hE:Hid (Gr w ((w.alloc (.cells #[.bool x.b,.slice x.a x.n x.p,.int .i64 x.m.a,.int .i64 x.m.b,.int .i64 x.m.c,.int .i64 x.m.d] 78)).alloc (.cells #[.bool y.b,.slice y.a y.n y.p,.int .i64 y.m.a,.int .i64 y.m.b,.int .i64 y.m.c,.int .i64 y.m.d] 78))):=((Gr.refl w).alloc _).alloc _
 go_enter Tryz.func116,Tryz.ntmps116
 go_wp2_with (fail);refine(qre y.m x.m _).mono ?_;rintro e w1 ⟨rfl,ah⟩;go_wp2;go_ret;exact⟨rfl,hE.out.trans ah⟩
theorem qrl:Go.Sort.SWO (Go.Proofs.ltOf Cs) where
 irrefl x:=by
  unfold Go.Proofs.ltOf Cs;simp only[decide_eq_false_iff_not,QL];exact Mo.lt_irrefl _
 trans x y z h1 h2:=by
  unfold Go.Proofs.ltOf Cs at*;simp only[decide_eq_true_eq,QL]at*;exact Mo.lt_trans h2 h1
 ntrans x y z h1 h2:=by
  unfold Go.Proofs.ltOf Cs at*;simp only[decide_eq_false_iff_not,QL]at*;intro h3;rcases Mo.Oz y.m x.m with k|k|k
  ·exact h1 k
  ·rw[k]at h2;exact h2 h3
  ·exact h2 (Mo.lt_trans h3 k)
theorem qur(blk off size:Nat)(w:World):Go.Proofs.CmpLays Tryz.prog 116 #[] zF 6 Cs blk off size w:=
 λ_ _ _ _ x y=>(qDt x y _).mono λ_ _⟨he,q,os,hg⟩=>⟨he,q,os,hg⟩
theorem qtU(w:World):(isAgg 78).run Tryz.prog w=.ok true w:=by kernel_rfl
theorem qDe(w:World):(Go.sizeOf 78).run Tryz.prog w=.ok 6 w:=by kernel_rfl
theorem qD1(x:TE):∀v∈zF x,v.oneCell'=true:=by
 intro v hv;simp only[zF,List.mem_cons,List.not_mem_nil,or_false]at hv;rcases hv with rfl|rfl|rfl|rfl|rfl|rfl<;>rfl
def yh(x:Nat->TE)(n:Nat):Array TE:=((List.range n).map x).toArray
theorem Yh(x:Nat->TE)(n:Nat):(yh x n).size=n:=by simp[yh]
theorem qD0(x:Nat->TE)(n i:Nat)(h:i<n):(yh x n)[i]! =x i:=by
 simp[yh,h]
theorem qEj(x:TE)(k:Nat)(hk:k<6)(c:Nat->TE)(i:Nat)(h:c i=x):(zF x)[k]! =tx c (i*6+k):=by
 subst h;unfold tx
 match k,hk with
 |0,_=>rw[Nat.add_zero,FJ];rfl
 |1,_=>rw[FK];rfl
 |2,_=>rw[OZ];rfl
 |3,_=>rw[O0];rfl
 |4,_=>rw[O1];rfl
 |5,_=>rw[O3];rfl
theorem qkl(d:Array TE)(x:Nat->TE)(n j:Nat)(hd:d.size=n)(hx:∀i,i<n->d[i]! =x i)(hj:j<n*6):(Go.Sort.flatK zF 6 d)[j]! =tx x j:=by
 rw[Go.Sort.get_flatK _ _ _ _ (by rw[hd];exact hj),qEj _ (j%6) (Nat.mod_lt _ (by decide)) x (j/6) (hx _ (by omega)).symm]
 congr 1
 omega
theorem qyM{w:World}{g cap n:Nat}{t:TypeId}{F:Nat->Value}{x:Nat->TE}(hB:au w g t (cap*6) F)(hn:n<=cap)(hF:∀j,j<n*6->F j=tx x j):Go.Sort.HoldsK zF 6 w g 0 (yh x n):=by
 intro j hj;rw[Go.Sort.size_flatK,Yh]at hj;have Dm:n*6<=cap*6:=fq _ hn;rw[Nat.zero_add,hB.cell (by omega),hF j hj,qkl (yh x n) x n j (Yh _ _) (λi hi=>qD0 x n i hi) hj];exact⟨rfl,hB.frozen j⟩
theorem qt2{w:World}{g cap n q:Nat}{t:TypeId}{F:Nat->Value}(hB:au w g t (cap*6) F)(d:Array TE)(os:Array Obj)(hd:d.size=n)(hn:n<=cap):
 au (Go.Proofs.sortWorldK zF 6 w g 0 q d os) g t (cap*6) (λj=>if j<n*6 then tx (λi=>d[i]!) j else F j)/\w.grownBy (Go.Proofs.sortWorldK zF 6 w g 0 q d os) (some g):=by
 obtain⟨cur,hg,hs,hc⟩:=hB;have hlt:g<w.heap.size:=(Array.getElem?_eq_some_iff.1 hg).1
 have qmS:∀k,k<w.heap.size->(Go.Proofs.sortWorldK zF 6 w g 0 q d os).heap[k]?=(w.heap.modify g (Go.Sort.onCells (Go.Sort.putCells id 0 (Go.Sort.flatK zF 6 d))))[k]?:=by
  intro k hk;unfold Go.Proofs.sortWorldK;rw[Go.Sort.heap_grow_old _ _ (by simp[Go.Sort.putRowK,Go.Sort.putRow,Go.Sort.mapBlock,Go.Sort.ahead];exact hk)];rfl
 constructor
 ·refine⟨Go.Sort.putCells id 0 (Go.Sort.flatK zF 6 d) cur,?_,by simp[Go.Sort.putCells,hs],λi hi=>?_⟩
  ·rw[qmS g hlt];simp[Array.getElem?_modify,hg,Go.Sort.onCells]
  ·simp only[Go.Sort.putCells,Array.getElem?_mapIdx,hc i hi,Option.map_some,bu,true_and,Nat.zero_add,Go.Sort.size_flatK,hd,Nat.sub_zero,id_eq]
   by_cases h:i<n*6
   ·rw[av h,av h,qkl d (λi=>d[i]!) n i hd (λ_ _=>rfl) h]
   ·rw[aj h,aj h]
 ·refine⟨rfl,rfl,rfl,?_,λk hk hne=>?_⟩
  ·unfold Go.Proofs.sortWorldK;rw[Go.Sort.size_grow];simp[Go.Sort.putRowK,Go.Sort.putRow,Go.Sort.mapBlock,Go.Sort.ahead]
  ·rw[qmS k hk,Array.getElem?_modify,aj (λe=>hne (by rw[e]))]
theorem Yq(n:Nat)(h:n<18446744073709551616):IntKind.u64.wrap (n:Int)=n:=IntWalk.u64_in _ (by omega)
theorem Vn(n:Nat)(w:World)(h:n<18446744073709551616):Calls Tryz.prog 95 #[.int .u64 (n:Int)] w λe w'=>e=.returned (.int .i64 (Lib.bitLen n:Nat))/\w'=w:=by
 have h:=Any.bits_Len Tryz.bitsLen (n:Int) w (by omega) (by omega);rw[Int.toNat_natCast]at h;exact h
theorem qDx{w:World}{g cap n:Nat}{F:Nat->Value}{x:Nat->TE}(hB:au w g 78 (cap*6) F)(hn:n<=cap)(hL:n<=1099511627776)(hF:∀j,j<n*6->F j=tx x j):
 Calls Tryz.prog 115 #[.slice (some ⟨g,0,none⟩) n cap,.func (.func 116) #[] #[]] w λe w'=>e=.returned (.tuple #[])/\
  ∃(x':Nat->TE)(F':Nat->Value),au w' g 78 (cap*6) F'/\(∀j,j<n*6->F' j=tx x' j)/\((List.range n).map x').Perm ((List.range n).map x)/\(∀i j,i<j->j<n->¬Mo.lt (x' i).m (x' j).m)/\w.grownBy w' (some g):=by
 have hH:=qyM hB hn hF;have hs:=Yh x n
 have eg:∀args w,(callFunc 116 args).run Tryz.prog w=.ok (.enter 116 args) w:=λ_ _=>by kernel_rfl
 have hlim:Lib.bitLen n<4611686018427387904:=Nat.lt_of_le_of_lt (Lib.bitLen_le n 62 (by omega) (by omega)) (by omega);have hp:=AnyQ.pdqsortCmpFunc_all (P:=Tryz.prog) Tryz.pdqTerm 6 qtU qDe zF Cs 116 #[] qrl g 0 cap (yh x n) w eg (qur g 0 (yh x n).size w) ⟨λ_=>rfl,qD1,hH,hB.lt⟩ (n+1) 0 n (Lib.bitLen n) (yh x n) w (by omega) rfl (SWK.start hH) (bu _) (by rw[hs];exact aA _) (by rw[hs];omega) hlim (Or.inl rfl);have qev:=Go.Sort.pdq_sorts (Go.Proofs.ltOf Cs) qrl (yh x n) 0 n (Lib.bitLen n) true true (bu _) (by rw[hs];exact aA _) (Or.inl rfl);rw[hs]at hp;change Calls Tryz.prog 146 _ _ _ at hp;generalize Go.Sort.pdq (Go.Proofs.ltOf Cs) (yh x n) 0 n (Lib.bitLen n) true true=d' at hp qev;have HP:=ae hp;have HS:=ae qev;have hwr:=Yq n (by omega);have HBL:=ae (Vn n w (by omega));clear hp qev hlim hH hs;generalize Lib.bitLen n=bl at*
 go_enter Tryz.func115,Tryz.ntmps115
 go_wp2_with (fail);refine HBL.out.mono ?_;rintro e w1 ⟨rfl,rfl⟩;go_wp2_with (fail);refine HP.out.mono ?_;rintro e w2 ⟨rfl,q,os,rfl⟩;go_wp2
 go_end0
 obtain⟨⟨hsz,_,Ht⟩,WT⟩:=HS.out;rw[Yh]at hsz;obtain⟨h1,h2⟩:=qt2 (q:=q) hB d' os hsz hn;refine⟨rfl,λi=>d'[i]!,_,h1,λj hj=>by rw[av hj],?_,λi j eD hj=>?_,h2⟩
 ·have e1:(d'.extract 0 n).toList=(List.range n).map (λi=>d'[i]!):=by
   apply List.ext_getElem?;intro i
   by_cases hi:i<n
   ·simp[hi,hsz]
   ·rw[List.getElem?_eq_none (by simp;omega),List.getElem?_eq_none (by simp;omega)]
  have e2:((yh x n).extract 0 n).toList=(List.range n).map x:=by
   simp[yh,List.take_of_length_le]
  rw[e1,e2]at Ht;exact Ht
 ·have:=WT i j (bu _) eD hj;unfold Go.Proofs.ltOf Cs at this;simpa[QL]using this
theorem qzC(fv:Value)(w:World):Calls Tryz.prog 159 #[.slice none 0 0,.int .i64 0,.int .i64 0,fv] w λe w'=>e=.returned (.tuple #[])/\w=w':=by
 go_enter Tryz.func159,Tryz.ntmps159
 go_wp2;refine wp_loop_rounds 1 ?_;rw[rounds_succ];go_wp2
 go_end0
 exact⟨rfl,rfl⟩
theorem qBI(fv:Value)(w:World):Calls Tryz.prog 146 #[.slice none 0 0,.int .i64 0,.int .i64 0,.int .i64 0,fv] w λe w'=>e=.returned (.tuple #[])/\w=w':=by
 go_enter Tryz.func146,Tryz.ntmps146
 go_wp2;refine wp_loop_rounds 1 ?_;rw[rounds_succ];go_wp2_with (fail);refine(qzC fv w).mono ?_;rintro e w1 ⟨rfl,rfl⟩;go_wp2;refine aV (results_none rfl _ _ _) rfl ?_;exact⟨rfl,rfl⟩
theorem qDy(fv:Value)(w:World):Calls Tryz.prog 115 #[.slice none 0 0,fv] w λe w'=>e=.returned (.tuple #[])/\w=w':=by
 have hb:=Vn 0 w (by omega)
 have h0:Lib.bitLen 0=0:=by decide
 rw[h0]at hb;have hwr:IntKind.u64.wrap ((0:Nat):Int)=(0:Nat):=Yq 0 (by omega);have HB:=ae hb;clear hb h0
 go_enter Tryz.func115,Tryz.ntmps115
 go_wp2_with (fail);refine HB.out.mono ?_;rintro e w1 ⟨rfl,rfl⟩;go_wp2_with (fail);refine(qBI fv _).mono ?_;rintro e w2 ⟨rfl,rfl⟩;go_wp2
 go_end0
 exact⟨rfl,rfl⟩
def dZ(n:Nat)(z:Nat->Int)(m:Nat->Mo):List Tm:=(List.range n).map λi=>(z i,m i)
def MR(M:Nat->Prop)(v:Value):Nat->Prop:=λb=>M b\/v.ownBlock=some b
def mq(M:Nat->Prop)(base:Nat)(w:World)(v:Value)(l:List Tm):Prop:=
 ∃(n:Nat)(z:Nat->Int)(x:Nat->TE),Own w base 78 6 v n (tx x)/\(∀i,i<n->dH (MR M v) w (.bool (x i).b) (.slice (x i).a (x i).n (x i).p) (z i))/\l=(List.range n).map (λi=>(z i,(x i).m))/\n<=1099511627776/\(∀g,v.ownBlock=some g->¬M g)
def Ee(n:Nat)(m:Nat->Mo):Prop:=(∀i j,i<j->j<n->m i≠m j)/\∀i,i<n->(m i).nn=true
theorem Ee.inj{n:Nat}{m:Nat->Mo}(h:Ee n m){i j:Nat}(hi:i<n)(hj:j<n)(e:m i=m j):i=j:=by
 rcases Nat.lt_trichotomy i j with k|k|k
 ·exact absurd e (h.1 i j k hj)
 ·exact k
 ·exact absurd e.symm (h.1 j i k hi)
theorem qD8{n:Nat}{z:Nat->Int}{m:Nat->Mo}(h:Ee n m){r:List Tm}(hp:r.Perm ((dZ n z m).filter λt=>decide (t.1≠0)))(hs:r.Pairwise (λs t=>¬Mo.lt s.2 t.2)):r=norm (dZ n z m):=by
 have hd:(dZ n z m).Pairwise (λs t=>s.2≠t.2):=by
  unfold dZ;rw[List.pairwise_map];refine(List.pairwise_lt_range (n:=n)).imp_of_mem ?_;intro i j hi hj eD;exact h.1 i j eD (by simpa using hj)
 have hn:∀t∈dZ n z m,t.2.nn=true:=by
  intro t ht;simp only[dZ,List.mem_map,List.mem_range]at ht;obtain⟨i,hi,rfl⟩:=ht;exact h.2 i hi
 obtain⟨hc,he⟩:=qua hd hn hp hs;refine norm_eq hc λq=>?_;rw[he];unfold mK
 by_cases hq:q.nn=true
 ·rw[av hq]
 ·rw[aj hq];exact rY λt ht e=>hq (e ▸ hn t ht)
open Classical in
theorem qrc{n cnt:Nat}{z:Nat->Int}{m:Nat->Mo}(hg:Ee n m)(X x':Nat->TE)(hX:∀i,i<n->(X i).m=m i)(σ:Nat->Nat)(hσ:(List.range cnt).map σ=(List.range n).filter (λi=>decide (z i≠0)))
 (hp:((List.range cnt).map x').Perm ((List.range cnt).map λj=>X (σ j))) (hs:∀i j,i<j->j<cnt->¬Mo.lt (x' i).m (x' j).m):
 ∃τ:Nat->Nat,(∀j,j<cnt->τ j<n/\x' j=X (τ j))/\norm (dZ n z m)=(List.range cnt).map (λj=>(z (τ j),(x' j).m)):=by
 have pQ:∀j,j<cnt->∃i,i<n/\x' j=X i:=by
  intro j hj;have h1:x' j∈(List.range cnt).map x':=List.mem_map.2 ⟨j,List.mem_range.2 hj,rfl⟩;have h2:=(hp.mem_iff).1 h1;obtain⟨q,hq,e⟩:=List.mem_map.1 h2;have h3:σ q∈(List.range cnt).map σ:=List.mem_map.2 ⟨q,hq,rfl⟩;rw[hσ]at h3;exact⟨σ q,by simpa using(List.mem_filter.1 h3).1,e.symm⟩
 let φ:TE->Tm:=λt=>((if h:∃i,i<n/\t=X i then z (Classical.choose h)else 0),t.m)
 have hφ:∀i,i<n->φ (X i)=(z i,m i):=by
  intro i hi;have hex:∃j,j<n/\X i=X j:=⟨i,hi,rfl⟩;have hc:=Classical.choose_spec hex
  have he:Classical.choose hex=i:=by
   refine(hg.inj hi hc.1 ?_).symm;rw[<-hX i hi, <-hX _ hc.1, <-hc.2]
  show((if h:∃j,j<n/\X i=X j then z (Classical.choose h)else 0),(X i).m)=_;rw[dif_pos hex,he,hX i hi]
 obtain⟨τ,hτ⟩:∃τ:Nat->Nat,∀j,j<cnt->τ j<n/\x' j=X (τ j):=⟨λj=>if h:j<cnt then Classical.choose (pQ j h)else 0,λj hj=>by
  simp only[dif_pos hj]
  exact Classical.choose_spec (pQ j hj)⟩
 refine⟨τ,hτ,?_⟩
 ·have hr:((List.range cnt).map λj=>φ (x' j))=(List.range cnt).map (λj=>(z (τ j),(x' j).m)):=by
   apply List.map_congr_left;intro j hj
   have hj':j<cnt:=by simpa using hj
   have hc:=hτ j hj';rw[hc.2,hφ _ hc.1,hX _ hc.1]
  rw[<-hr];refine(qD8 hg ?_ ?_).symm
  ·have h1:((List.range cnt).map λj=>φ (x' j)).Perm ((List.range cnt).map λj=>φ (X (σ j))):=by
    have:=hp.map φ;simpa[List.map_map,Function.comp_def]using this
   refine h1.trans (List.Perm.of_eq ?_)
   have h2:((List.range cnt).map λj=>φ (X (σ j)))=((List.range cnt).map σ).map (λi=>φ (X i)):=by simp[List.map_map,Function.comp_def]
   rw[h2,hσ];unfold dZ;rw[List.filter_map];have h3:(List.range n).filter ((λt:Tm=>decide (t.1≠0))∘λi=>(z i,m i))=(List.range n).filter (λi=>decide (z i≠0)):=rfl;rw[h3];apply List.map_congr_left;intro i hi;exact hφ i (by simpa using(List.mem_filter.1 hi).1)
  ·rw[List.pairwise_map];refine(List.pairwise_lt_range (n:=cnt)).imp_of_mem ?_;intro i j hi hj eD;exact hs i j eD (by simpa using hj)
theorem qjq{n:Nat}{c0 c1:Nat->Value}{m:Nat->Mo}(h:∀i,i<n->∃b a q p,c0 i=.bool b/\c1 i=.slice a q p):∃X:Nat->TE,∀i,i<n->c0 i=.bool (X i).b/\c1 i=.slice (X i).a (X i).n (X i).p/\(X i).m=m i:=by
 refine⟨λi=>if hi:i<n then⟨Classical.choose (h i hi),Classical.choose (Classical.choose_spec (h i hi)),Classical.choose (Classical.choose_spec (Classical.choose_spec (h i hi))),Classical.choose (Classical.choose_spec (Classical.choose_spec (Classical.choose_spec (h i hi)))),m i⟩else default,λi hi=>?_⟩;have hs:=Classical.choose_spec (Classical.choose_spec (Classical.choose_spec (Classical.choose_spec (h i hi))));simp only[dif_pos hi];exact⟨hs.1,hs.2,trivial⟩
theorem qEi(x y:Nat->TE)(n:Nat)(h:∀i,i<n->x i=y i)(j:Nat)(hj:j<n*6):tx x j=tx y j:=by
 unfold tx lG;simp only[];rw[h (j/6) (by omega)]
theorem qru(x:Nat->TE)(n:Nat)(t:TE)(j:Nat)(hj:j<(n+1)*6):app (tx x) (n*6) (arr #[.bool t.b,.slice t.a t.n t.p,.int .i64 t.m.a,.int .i64 t.m.b,.int .i64 t.m.c,.int .i64 t.m.d]) j=tx (λi=>if i=n then t else x i) j:=by
 have h:=qro (λi=>.bool (x i).b) (λi=>.slice (x i).a (x i).n (x i).p) (λi=>(x i).m) n t.m (.bool t.b) (.slice t.a t.n t.p) j hj;unfold tx;rw[h];unfold lG rO kX
 by_cases hn:j/6=n
 ·simp[hn]
 ·simp[hn]
theorem qpU(t:TE)(j:Nat)(hj:j<6):(arr #[.bool t.b,.slice t.a t.n t.p,.int .i64 t.m.a,.int .i64 t.m.b,.int .i64 t.m.c,.int .i64 t.m.d] j).oneCell'=true:=by
 match j,hj with
 |0,_=>rfl
 |1,_=>rfl
 |2,_=>rfl
 |3,_=>rfl
 |4,_=>rfl
 |5,_=>rfl
def zL(z:Nat->Int)(k cnt:Nat)(σ:Nat->Nat):Prop:=(List.range cnt).map σ=(List.range k).filter (λi=>decide (z i≠0))
theorem zL.len{z:Nat->Int}{k cnt:Nat}{σ:Nat->Nat}(h:zL z k cnt σ):cnt<=k:=by
 have:=congrArg List.length h;simp only[List.length_map,List.length_range]at this;rw[this];exact aK (List.length_filter_le _ _) (by simp)
theorem zL.skip{z:Nat->Int}{k cnt:Nat}{σ:Nat->Nat}(h:zL z k cnt σ)(hz:z k=0):zL z (k+1) cnt σ:=by
 unfold zL at*;rw[h,List.range_succ,List.filter_append];simp[hz]
theorem zL.take{z:Nat->Int}{k cnt:Nat}{σ:Nat->Nat}(h:zL z k cnt σ)(hz:z k≠0):zL z (k+1) (cnt+1) (λi=>if i=cnt then k else σ i):=by
 unfold zL at*;rw[List.range_succ,List.range_succ,List.filter_append, <-h,List.map_append]
 congr 1
 ·apply List.map_congr_left;intro i hi
  have:i≠cnt:=by simp at hi;omega
  simp[this]
 ·simp[hz]
theorem qwC(M:Nat->Prop)(base g n:Nat)(z:Nat->Int)(m:Nat->Mo)(w:World)(hM:Mb M w)(hG:qg M base w g n z m)(jk:Ee n m):
 Calls Tryz.prog 86 #[.pointer (some ⟨g,0,none⟩)] w λe w'=>∃v,e=.returned v/\mq M w.heap.size w' v (norm (dZ n z m))/\Ext w w':=by
 obtain⟨i0,hi,hz0,hz1,hz2⟩:=info_parts Tryz.qeN;obtain⟨r,tv,c0,c1,hB,oP,GR,Dq,Bd,Be,su,hO,hC,dY⟩:=hG;obtain⟨X,hX⟩:=qjq (m:=m) (λi hi=>(hC i hi).form)
 have HC:Hid (∀i,i<n->dH (GM M g r tv) w (.bool (X i).b) (.slice (X i).a (X i).n (X i).p) (z i)):=λi hi=>by
  have:=hC i hi;rw[(hX i hi).1,(hX i hi).2.1]at this;exact this
 have HXm:Hid (∀i,i<n->(X i).m=m i):=λi hi=>(hX i hi).2.2
 have hcell:∀i,i<n->∃tb cap,tv=.slice (some ⟨tb,0,none⟩) n cap/\tb<w.heap.size/\w.cell? ⟨tb,i*6,none⟩=some (.bool (X i).b)/\w.cell? ⟨tb,i*6+1,none⟩=some (.slice (X i).a (X i).n (X i).p)/\w.cell? ⟨tb,i*6+2,none⟩=some (.int .i64 (X i).m.a)/\w.cell? ⟨tb,i*6+3,none⟩=some (.int .i64 (X i).m.b)/\w.cell? ⟨tb,i*6+4,none⟩=some (.int .i64 (X i).m.c)/\w.cell? ⟨tb,i*6+5,none⟩=some (.int .i64 (X i).m.d):=by
  intro i hi;obtain⟨tb,cap,F,rfl,EZ,jf,Ho,eu,hF⟩:=hO.some (by omega);have Dm:n*6<=cap*6:=fq _ Ho;refine⟨tb,cap,rfl,jf.lt,?_,?_,?_,?_,?_,?_⟩
  ·rw[jf.cell (by omega),hF _ (by omega),FJ,(hX i hi).1]
  ·rw[jf.cell (by omega),hF _ (by omega),FK,(hX i hi).2.1]
  ·rw[jf.cell (by omega),hF _ (by omega),OZ,(hX i hi).2.2]
  ·rw[jf.cell (by omega),hF _ (by omega),O0,(hX i hi).2.2]
  ·rw[jf.cell (by omega),hF _ (by omega),O1,(hX i hi).2.2]
  ·rw[jf.cell (by omega),hF _ (by omega),O3,(hX i hi).2.2]
 have qr8:=ae hcell;have hlt:∀b,tv.ownBlock=some b->b<w.heap.size:=λb hb=>(hO.lt b hb).2;have gK:=ae hlt;have gP:=hB.lt;have hrl:=su.lt;obtain⟨ta,tc,rfl⟩:=hO.form;have g1:=hB.cell (i:=1) (by omega);simp only[arr]at g1;have F3:=ae jk;clear hcell hX hC jk hlt hB hO su
 go_enter Tryz.func86,Tryz.ntmps86
 go_wp2
 go_loopw [11,3] (λi v wr=>∃(k cnt:Nat)(σ:Nat->Nat),k<=n/\i=.int .i64 k/\zL z k cnt σ/\Own wr w.heap.size 78 6 v cnt (tx λj=>X (σ j))/\Ext w wr) (λi _ _=>n-(intOf i).toNat)
 case atStart=>exact⟨0,0,λ_=>0,bu _,rfl,rfl,Own.nil _ _ _ _ _,ai _⟩
 case round=>
  obtain⟨k,cnt,σ,hk,rfl,qdG,hOr,bT⟩:=hrel;have qFQ:=qdG.len;have Ue:=ae qdG;clear qdG;obtain⟨va,vc,rfl⟩:=hOr.form;have hsz:=bT.size
  by_cases hlt:k<n
  ·obtain⟨tb,cap,hta,WX,x0,x1,x2,x3,x4,x5⟩:=qr8.out k hlt;simp only[Value.slice.injEq,true_and]at hta;obtain⟨rfl,rfl⟩:=hta;rw[<-bT.cell WX]at x0 x1 x2 x3 x4 x5
   have qGO:tb<wr.heap.size:=by omega
   have uR:=((HC.out k hlt).ext bT).dB;have HIk:=ae uR;clear uR;go_wp2_with (fail);have aQ:Ext wr (wr.alloc (.cells #[.bool (X k).b,.slice (X k).a (X k).n (X k).p,.int .i64 (X k).m.a,.int .i64 (X k).m.b,.int .i64 (X k).m.c,.int .i64 (X k).m.d] 78)):=(ai wr).alloc _;have kg:=au.aO wr #[.bool (X k).b,.slice (X k).a (X k).n (X k).p,.int .i64 (X k).m.a,.int .i64 (X k).m.b,.int .i64 (X k).m.c,.int .i64 (X k).m.d] 78 6 rfl;refine(Lb _ _ (z k) _ (HIk.out.ext aQ)).mono ?_;rintro e w1 ⟨rfl,ah⟩;have dF:=aQ.trans ah;have Ka:=kg.ext ah;have y0:=Ka.cell (i:=0) (by omega);have y1:=Ka.cell (i:=1) (by omega);have y2:=Ka.cell (i:=2) (by omega);have y3:=Ka.cell (i:=3) (by omega);have y4:=Ka.cell (i:=4) (by omega);have y5:=Ka.cell (i:=5) (by omega);simp only[arr]at y0 y1 y2 y3 y4 y5;have hO1:=hOr.ext dF;clear x0 x1 x2 x3 x4 x5 HIk kg Ka
   by_cases hz:z k=0
   ·have t0:((z k).sign !=0)=false:=by simp[hz]
    have t1:((z k).sign==0)=true:=by simp[hz]
    have HZ:=ae hz;clear hz;go_wp2
    go_roundw
    case rel=>exact⟨k+1,cnt,σ,by omega,by go_num,Ue.out.skip HZ.out,hO1,bT.trans dF⟩
    case measure=>simp[intOf];omega
   ·have t0:((z k).sign !=0)=true:=by simp[hz]
    have t1:((z k).sign==0)=false:=by simp[hz]
    have HZ:=ae hz;clear hz;have dI:=dF.size;have dW:=au.aO w1 #[.bool (X k).b,.slice (X k).a (X k).n (X k).p,.int .i64 (X k).m.a,.int .i64 (X k).m.b,.int .i64 (X k).m.c,.int .i64 (X k).m.d] 78 6 rfl;have jg:=hO1.ext ((ai w1).alloc (.cells #[.bool (X k).b,.slice (X k).a (X k).n (X k).p,.int .i64 (X k).m.a,.int .i64 (X k).m.b,.int .i64 (X k).m.c,.int .i64 (X k).m.d] 78));have R8:=qpU (X k);have mi:=ae R8;clear R8
    go_wp2_with (at_builtin;refine yj _ rfl (.tmp 19) (.tmp 21) _ rfl w.heap.size 78 i0 _ 6 64 Tryz.underlying36 hi hz0 hz1 hz2 rfl (by omega) (.slice va cnt vc) cnt (tx λj=>X (σ j)) rfl jg w1.heap.size 78 1 (arr #[.bool (X k).b,.slice (X k).a (X k).n (X k).p,.int .i64 (X k).m.a,.int .i64 (X k).m.b,.int .i64 (X k).m.c,.int .i64 (X k).m.d]) rfl dW mi.out ?s1 ?s2 ?s3 ?_)
    case s1=>unfold maxLen;omega
    case s2=>omega
    case s3=>simp;omega
    intro gg cap2 w2 ed bK hat uf;have mX:Ext w w2:=((bT.trans dF).alloc _).grown bK (λq hq=>(jg.lt q hq).1)
    have vU:=ed.congr (f':=tx λj=>X (if j=cnt then k else σ j)) (λj hj=>by
     rw[qru _ _ _ _ hj]
     exact qEi _ _ (cnt+1) (λi _=>by by_cases h:i=cnt<;>simp[h]) j hj)
    clear ed jg dW bK hat;go_wp2
    go_roundw
    case rel=>exact⟨k+1,cnt+1,_,by omega,by go_num,Ue.out.take HZ.out,vU,mX⟩
    case measure=>simp[intOf];omega
  ·have:k=n:=by omega
   subst this;clear hlt
   have qk3:∀(v:Value),(∀b,v.ownBlock=some b->w.heap.size<=b)->∀b,MR M v b->GM M g r (.slice ta k tc) b\/w.heap.size<=b:=by
    intro v hv b hb;rcases hb with hb|hb
    ·exact .inl (.inl hb)
    ·exact .inr (hv b hb)
   have qsr:=ae qk3;clear qk3;rcases hOr with⟨H9,rfl⟩|⟨gg,cap,F,H9,Wh,J9,Ho,eu,hF⟩
   ·simp only[Value.slice.injEq,true_and]at H9;obtain⟨rfl,rfl⟩:=H9;obtain⟨τ,hτ,Hq⟩:=qrc F3.out X X HXm.out σ Ue.out (by simp) (by intro i j eD hj;omega);have hres:mq M w.heap.size wr (.slice none 0 0) (norm (dZ k z m)):=⟨0,λj=>z (τ j),X,.inl ⟨rfl,rfl⟩,λi hi=>by omega,Hq,by omega,λq hq=>by simp[Value.ownBlock]at hq⟩;clear hτ Hq;go_wp2_with (fail);refine(qDy _ _).mono ?_;rintro e w1 ⟨rfl,rfl⟩;go_wp2;go_ret;exact⟨_,rfl,hres,bT⟩
   ·simp only[Value.slice.injEq,true_and]at H9;obtain⟨rfl,rfl⟩:=H9;have aR:=qDx J9 Ho (by omega) hF;have aJ:=ae aR;clear aR hF;go_wp2_with (fail);refine aJ.out.mono ?_;rintro e w1 ⟨rfl,x',F',hB',Rk,Ht,WT,NW⟩;have dF:Ext w w1:=bT.grown NW (λq hq=>by cases hq;exact Wh);obtain⟨τ,hτ,Hq⟩:=qrc F3.out X x' HXm.out σ Ue.out Ht WT
    have hres:mq M w.heap.size w1 (.slice (some ⟨gg,0,none⟩) cnt vc) (norm (dZ k z m)):=by
     refine⟨cnt,λj=>z (τ j),x',.inr ⟨gg,vc,F',rfl,Wh,hB',Ho,eu,Rk⟩,λi hi=>?_,Hq,by omega,λq hq hm=>?_⟩
     ·rw[(hτ i hi).2];exact((HC.out (τ i) (hτ i hi).1).more (qsr.out _ (λb hb=>by simp only[Value.ownBlock,Option.some.injEq]at hb;subst hb;exact Wh))).ext dF
     ·simp only[Value.ownBlock,Option.some.injEq]at hq;subst hq;have:=hM _ hm;omega
    clear hτ Hq WT Ht Rk hB';go_wp2;go_ret;exact⟨_,rfl,hres,dF⟩
theorem qwz(M:Nat->Prop)(w:World):
 Calls Tryz.prog 84 #[] w λe w'=>e=.returned (.pointer (some ⟨w.heap.size+1,0,none⟩))/\qg M w.heap.size w' (w.heap.size+1) 0 (λ_=>0) (λ_=>⟨0,0,0,0⟩)/\Ext w w':=by
 have hmm:= @run_makeMap Tryz.prog
 go_enter Tryz.func84,Tryz.ntmps84
 go_wp2;go_ret;refine⟨rfl,⟨w.heap.size,.slice none 0 0,λ_=>.bool false,λ_=>.bool false,?_,by omega,aA _,by omega,by simp[Value.ownBlock],by simp[Value.ownBlock],?_,Own.nil _ _ _ _ _,λi hi=>by omega,by omega⟩,((ai w).alloc _).alloc _⟩
 ·have:=au.aO (w.alloc (.map #[] 0)) #[.map (some w.heap.size),.slice none 0 0] 150 2 rfl;simpa using this
 ·unfold oH;rw[Below.heap_alloc _ _ _ (by simp),heap_alloc_new];rfl
theorem IJ(n:Nat)(z:Nat->Int)(m:Nat->Mo):dZ (n+1) z m=dZ n z m++[(z n,m n)]:=by
 unfold dZ;rw[List.range_succ,List.map_append];rfl
theorem qfW{n:Nat}{z z':Nat->Int}{m m':Nat->Mo}(h:∀i,i<n->z i=z' i/\m i=m' i):dZ n z m=dZ n z' m':=by
 unfold dZ;apply List.map_congr_left;intro i hi;have:=h i (by simpa using hi);rw[this.1,this.2]
theorem qD6(n i:Nat)(z:Nat->Int)(m:Nat->Mo)(c:Int)(hi:i<n)(q:Mo):aH (dZ n (λj=>if j=i then z j+c else z j) m) q=aH (dZ n z m) q+(if m i=q then c else 0):=by
 induction n with
 |zero=>omega
 |succ n ih=>
  rw[IJ,IJ,iJ,iJ]
  by_cases hn:i=n
  ·subst hn;rw[qfW (z':=z) (m':=m) (λj hj=>⟨aj (by omega),rfl⟩)];simp only[aH,if_true]
   split<;>omega
  ·rw[ih (by omega)];simp only[aH,aj (λe=>hn e.symm:¬n=i)];omega
theorem qD7(n i:Nat)(z:Nat->Int)(m:Nat->Mo)(c:Int)(hi:i<n):aB (dZ n (λj=>if j=i then z j+c else z j) m)<=aB (dZ n z m)+c.natAbs:=by
 induction n with
 |zero=>omega
 |succ n ih=>
  rw[IJ,IJ,kK,kK]
  by_cases hn:i=n
  ·subst hn;rw[qfW (z':=z) (m':=m) (λj hj=>⟨aj (by omega),rfl⟩)];simp only[aB,if_true];omega
  ·have:=ih (by omega);simp only[aB,aj (λe=>hn e.symm:¬n=i)];omega
theorem qrr(n:Nat)(z:Nat->Int)(m:Nat->Mo)(c:Int)(k:Mo):dZ (n+1) (λj=>if j=n then c else z j) (kX m n k)=dZ n z m++[(c,k)]:=by
 rw[IJ]
 congr 1
 ·exact qfW λi hi=>⟨aj (by omega),by unfold kX;rw[aj (by omega)]⟩
 ·simp[kX]
theorem qAZ(n i:Nat)(z:Nat->Int)(m:Nat->Mo)(hi:i<n):(z i).natAbs<=aB (dZ n z m):=
 qfd (t:=(z i,m i)) (List.mem_map.2 ⟨i,List.mem_range.2 hi,rfl⟩)
theorem qwx(M:Nat->Prop)(base g n:Nat)(z:Nat->Int)(m:Nat->Mo)(k:Mo)(d0 d1:Value)(c:Int)(w:World)(hM:Mb M w)(hG:qg M base w g n z m)(jk:Ee n m)(CY:dh (λb=>M b\/sV w g b) w d0 d1 c)
 (hn:n+1<=1099511627776) (hL:aF (aB (dZ n z m)+c.natAbs)<=1099511627776):
 Calls Tryz.prog 85 #[.pointer (some ⟨g,0,none⟩),jZ k,.agg #[d0,d1]] w λe w'=>e=.returned (.tuple #[])/\∃n' z' m',qg M base w' g n' z' m'/\Ee n' m'/\n'<=n+1/\
  aB (dZ n' z' m')<=aB (dZ n z m)+c.natAbs/\(∀q,aH (dZ n' z' m') q=aH (dZ n z m) q+(if k.nn=true then(if k=q then c else 0)else 0))/\Below base w w'/\Fr g w w':=by
 have hI:dh M w d0 d1 c:=CY.more (λb hb=>.inl (.inl hb))
 have gD:base<=w.heap.size:=by have:=hG.lt;omega
 by_cases jH:k.nn=true
 ·by_cases hex:∃i,i<n/\m i=k
  ·obtain⟨i,hi,hk⟩:=hex;refine(qwy M base g n z m k d0 d1 c w hM hI hG CY jH i hi hk (λj hj e=>jk.1 j i hj hi (e.trans hk.symm)) (aK (fu ?_) hL)).mono ?_
   ·have:=qAZ n i z m hi;omega
   ·rintro e w' ⟨rfl,hG',hb⟩;refine⟨rfl,n,_,m,hG',jk,by omega,qD7 n i z m c hi,λq=>?_,hb⟩;rw[qD6 n i z m c hi q,hk,av jH]
  ·refine(qwB M base g n z m k d0 d1 c w hM hI hG CY jH (λj hj e=>hex ⟨j,hj,e⟩) hn).mono ?_;rintro e w' ⟨rfl,hG',hb⟩;refine⟨rfl,n+1,_,_,hG',⟨λi j eD hj=>?_,λi hi=>?_⟩,aA _,?_,λq=>?_,hb⟩
   ·unfold kX
    by_cases AU:j=n
    ·rw[aj (by omega),av AU];exactλe=>hex ⟨i,by omega,e⟩
    ·rw[aj (by omega),aj AU];exact jk.1 i j eD (by omega)
   ·unfold kX
    by_cases wC:i=n
    ·rw[av wC];exact jH
    ·rw[aj wC];exact jk.2 i (by omega)
   ·rw[qrr,kK];simp[aB]
   ·rw[qrr,iJ,av jH];simp[aH]
 ·refine(qwA M base g k d0 d1 c w hI (by simpa using jH)).mono ?_;rintro e w' ⟨rfl,he⟩;exact⟨rfl,n,z,m,hG.ext he,jk,by omega,by omega,λq=>by rw[aj jH];omega,QZ he gD,Fr.gZ hG.lt.2 he⟩
def qi3(M:Nat->Prop)(w:World)(v:Value)(n:Nat)(c0 c1:Nat->Value)(m:Nat->Mo):Prop:=
 n<=1099511627776/\(((∃a cap,v=.slice a 0 cap/\cap<=maxLen)/\n=0)\/∃b off cap,v=.slice (some ⟨b,off,none⟩) n cap/\n<=cap/\cap<=maxLen/\(b<w.heap.size/\¬M b)/\∀i,i<n->w.cell? ⟨b,off+i*6,none⟩=some (c0 i)/\w.cell? ⟨b,off+i*6+1,none⟩=some (c1 i)/\
  w.cell? ⟨b,off+i*6+2,none⟩=some (.int .i64 (m i).a)/\w.cell? ⟨b,off+i*6+3,none⟩=some (.int .i64 (m i).b)/\w.cell? ⟨b,off+i*6+4,none⟩=some (.int .i64 (m i).c)/\w.cell? ⟨b,off+i*6+5,none⟩=some (.int .i64 (m i).d))
def eU(M:Nat->Prop)(w:World)(v:Value)(l:List Tm):Prop:=
 ∃(n:Nat)(z:Nat->Int)(m:Nat->Mo)(c0 c1:Nat->Value),qi3 M w v n c0 c1 m/\l=dZ n z m/\∀i,i<n->dh M w (c0 i) (c1 i) (z i)
def xu(M:Nat->Prop)(w:World)(v:Value)(l:List Tm):Prop:=
 ∃(n:Nat)(z:Nat->Int)(m:Nat->Mo)(c0 c1:Nat->Value),qi3 (λ_=>False) w v n c0 c1 m/\l=dZ n z m/\∀i,i<n->dh M w (c0 i) (c1 i) (z i)
theorem eU.w{M:Nat->Prop}{w:World}{v:Value}{l:List Tm}(h:eU M w v l):xu M w v l:=by
 obtain⟨n,z,m,c0,c1,⟨dY,hrow⟩,h1,h2⟩:=h;refine⟨n,z,m,c0,c1,⟨dY,?_⟩,h1,h2⟩;rcases hrow with hrow|⟨b,off,cap,hv,hn,hc,hb,hcell⟩
 ·exact .inl hrow
 ·exact .inr ⟨b,off,cap,hv,hn,hc,⟨hb.1,λh=>h⟩,hcell⟩
theorem qD9(n k:Nat)(z:Nat->Int)(m:Nat->Mo)(h:k<=n):∃r,dZ n z m=dZ k z m++r:=by
 obtain⟨j,rfl⟩:∃j,n=k+j:=⟨n-k,by omega⟩;unfold dZ;rw[List.range_add,List.map_append];exact⟨_,rfl⟩
theorem mq.base{M:Nat->Prop}{B B':Nat}{w:World}{v:Value}{l:List Tm}(h:mq M B w v l)(hb:B'<=B):mq M B' w v l:=by
 obtain⟨n,z,x,h1,h2,h3,h4,h5⟩:=h;refine⟨n,z,x,?_,h2,h3,h4,h5⟩;rcases h1 with h1|⟨g,cap,F,hv,hg,r⟩
 ·exact .inl h1
 ·exact .inr ⟨g,cap,F,hv,aK hb hg,r⟩
theorem qrf(M:Nat->Prop)(v:Value)(l:List Tm)(w:World)(hM:Mb M w)(hP:xu M w v l)(hL:aF (aB l)<=1099511627776):
 Calls Tryz.prog 43 #[v] w λe w'=>∃u,e=.returned u/\mq M w.heap.size w' u (norm l)/\Ext w w':=by
 obtain⟨n,z,m,c0,c1,⟨dY,hrow⟩,rfl,hI⟩:=hP;have HI:=ae hI;have Qc:=ae hrow
 obtain⟨va,vc,rfl⟩:∃a cap,v=.slice a n cap:=by
  rcases hrow with⟨⟨_,_,rfl,_⟩,rfl⟩|⟨b,off,cap,rfl,_⟩
  ·exact⟨_,_,rfl⟩
  ·exact⟨_,_,rfl⟩
 have HL:=ae hL;clear hI hrow hL
 go_enter Tryz.func43,Tryz.ntmps43
 go_wp2_with (fail);refine(qwz M w).mono ?_;rintro e w1 ⟨rfl,hG,ah⟩;go_wp2
 go_loopw [9] (λi wr=>∃(k n':Nat)(z':Nat->Int)(m':Nat->Mo),k<=n/\i=.int .i64 k/\qg M w.heap.size wr (w.heap.size+1) n' z' m'/\Ee n' m'/\n'<=k/\Hid (aB (dZ n' z' m')<=aB (dZ k z m))/\Hid (∀q,aH (dZ n' z' m') q=mK (dZ k z m) q)/\Ext w wr) (λi _=>n-(intOf i).toNat)
 case atStart=>exact⟨0,0,_,_,bu _,rfl,hG,⟨λi j _ h=>by omega,λi h=>by omega⟩,aA _,aA _,λq=>by simp[dZ,aH,mK],ah⟩
 case round=>
  clear hG ah;obtain⟨k,n',z',m',hk,rfl,hG,jk,oW,HN,HQ,bT⟩:=hrel;have F3:=ae jk;clear jk;have hsz:=bT.size
  by_cases hlt:k<n
  ·rcases Qc.out with⟨_,h0⟩|⟨b,off,cap,hv,xL,hm,hb,Df⟩
   ·omega
   simp only[Value.slice.injEq,true_and]at hv;obtain⟨rfl,rfl⟩:=hv;obtain⟨x0,x1,x2,x3,x4,x5⟩:=Df k hlt;clear Df;have uR:=HI.out k hlt;obtain⟨b1,a1,n1,p1,e0,e1⟩:=uR.form;rw[e0,e1]at uR;rw[e0]at x0;rw[e1]at x1;rw[<-bT.cell hb.1]at x0 x1 x2 x3 x4 x5
   have gD:b<wr.heap.size:=by omega
   have CY:dh (λb=>M b\/w.heap.size<=b) wr (.bool b1) (.slice a1 n1 p1) (z k):=(uR.more (λb hb=>hb)).ext bT;have LZ:=ae CY
   have hLk:aF (aB (dZ n' z' m')+(z k).natAbs)<=1099511627776:=by
    refine aK (fu ?_) HL.out;obtain⟨r,hr⟩:=qD9 n (k+1) z m (by omega);rw[hr,kK,IJ,kK];have:=HN.out;simp[aB];omega
   have qnX:∀q,mK (dZ (k+1) z m) q=mK (dZ k z m) q+(if(m k).nn=true then(if m k=q then z k else 0)else 0):=by
    intro q;unfold mK;rw[IJ,iJ]
    by_cases hq:q.nn=true
    ·rw[av hq,av hq];simp only[aH]
     by_cases WJ:m k=q
     ·rw[av WJ,av (by rw[WJ];exact hq)];omega
     ·rw[aj WJ];split<;>simp[WJ]
    ·rw[aj hq,aj hq]
     by_cases hmk:(m k).nn=true
     ·rw[av hmk,aj (λ(e:m k=q)=>hq (e ▸ hmk))];omega
     ·rw[aj hmk];omega
   have qto:=ae qnX;have HLK:=ae hLk;clear qnX hLk CY uR e0 e1;go_wp2_with (fail);refine(qwx M w.heap.size (w.heap.size+1) n' z' m' (m k) _ _ (z k) _ (hM.size (by simp;omega)) (hG.ext ((ai wr).alloc _)) F3.out ((LZ.out.ext ((ai wr).alloc _)).more (λb hb=>.inl (hb.imp id (λh=>(hG.yL (h.ext ((ai wr).alloc _) hG.lt.2)).1)))) (by omega) HLK.out).mono ?_;rintro e w2 ⟨rfl,n2,z2,m2,GH,qnC,mI,hN2,EN,gU,_⟩;have mX:Ext w w2:=Below.trans (Ext.below (bT.alloc _)) gU;have qs4:=ae qnC
   have BP:Hid (aB (dZ n2 z2 m2)<=aB (dZ (k+1) z m)):=by
    show _<=_;rw[IJ,kK];have:=HN.out;simp[aB];omega
   have nH:Hid (∀q,aH (dZ n2 z2 m2) q=mK (dZ (k+1) z m) q):=λq=>by rw[EN q,HQ.out q,qto.out q]
   clear qnC hN2 EN gU x0 x1 x2 x3 x4 x5;go_wp2
   go_roundw
   case rel=>exact⟨k+1,n2,z2,m2,by omega,by go_num,GH,qs4.out,by omega,BP,nH,mX⟩
   case measure=>simp[intOf];omega
  ·have:k=n:=by omega
   subst this
   have Hq:norm (dZ n' z' m')=norm (dZ k z m):=by
    refine norm_eq (o7 _) (λq=>?_);rw[Lp];unfold mK
    by_cases hq:q.nn=true
    ·rw[av hq,HQ.out q];unfold mK;rw[av hq]
    ·rw[aj hq,aj hq]
   have qsY:=ae Hq;clear Hq;go_wp2_with (fail);refine(qwC M w.heap.size (w.heap.size+1) n' z' m' _ (hM.size hsz) hG F3.out).mono ?_;rintro e w2 ⟨u,rfl,hu,az⟩;rw[qsY.out]at hu;go_wp2;go_ret;refine⟨u,rfl,?_,bT.trans az⟩;exact hu.base hsz
theorem Lx(M:Nat->Prop)(v:Value)(l:List Tm)(w:World)(hM:Mb M w)(hP:eU M w v l)(hL:aF (aB l)<=1099511627776):
 Calls Tryz.prog 43 #[v] w λe w'=>∃u,e=.returned u/\mq M w.heap.size w' u (norm l)/\Ext w w':=qrf M v l w hM hP.w hL
def nM(s t:Tm):Int:=if s.2=t.2 then iI s.1 t.1 else nL s.2 t.2
def fI:List Tm->List Tm->Int
 |[],[]=>0
 |[],_::_=> -1
 |_::_,[]=>1
 |s::l,t::r=>if nM s t=0 then fI l r else nM s t
theorem Ct(s t:Tm):nM s t=0↔s=t:=by
 unfold nM;constructor
 ·intro h
  by_cases hm:s.2=t.2
  ·rw[av hm]at h;refine Prod.ext ?_ hm;unfold iI at h
   by_cases h1:s.1<t.1
   ·rw[av h1]at h;omega
   ·rw[aj h1]at h
    by_cases h2:t.1<s.1
    ·rw[av h2]at h;omega
    ·omega
  ·rw[aj hm]at h;exact absurd ((qju _ _).1 h) hm
 ·rintro rfl;rw[av rfl,QO]
theorem JZ(l r:List Tm):fI l r=0↔l=r:=by
 induction l generalizing r with
 |nil=>cases r<;>simp[fI]
 |cons s l ih=>
  cases r with
  |nil=>simp[fI]
  |cons t r=>
   simp only[fI]
   by_cases h:nM s t=0
   ·rw[av h,ih,(Ct s t).1 h];simp
   ·rw[aj h];constructor
    ·intro k;exact absurd k h
    ·intro k;exact absurd ((Ct s t).2 (List.cons.inj k).1) h
theorem qDp{M:Nat->Prop}(s t:TE)(y z:Int)(w:World)(hs:dh M w (.bool s.b) (.slice s.a s.n s.p) y)(ht:dh M w (.bool t.b) (.slice t.a t.n t.p) z):
 Calls Tryz.prog 97 #[.agg #[.bool s.b,.slice s.a s.n s.p,.int .i64 s.m.a,.int .i64 s.m.b,.int .i64 s.m.c,.int .i64 s.m.d],.agg #[.bool t.b,.slice t.a t.n t.p,.int .i64 t.m.a,.int .i64 t.m.b,.int .i64 t.m.c,.int .i64 t.m.d]] w λe w'=>e=.returned (.int .i64 (nM (y,s.m) (z,t.m)))/\Ext w w':=by
 have hE:Ext w ((w.alloc (.cells #[.bool s.b,.slice s.a s.n s.p,.int .i64 s.m.a,.int .i64 s.m.b,.int .i64 s.m.c,.int .i64 s.m.d] 78)).alloc (.cells #[.bool t.b,.slice t.a t.n t.p,.int .i64 t.m.a,.int .i64 t.m.b,.int .i64 t.m.c,.int .i64 t.m.d] 78)):=((ai w).alloc _).alloc _;have HE:=ae hE;clear hE;have hq:∀w,(Op.equalIn 10000 76 (.agg #[.int .i64 s.m.a,.int .i64 s.m.b,.int .i64 s.m.c,.int .i64 s.m.d]) (.agg #[.int .i64 t.m.a,.int .i64 t.m.b,.int .i64 t.m.c,.int .i64 t.m.d])).run Tryz.prog w=.ok (decide (s.m=t.m)) w:=λw=>qbT s.m t.m w
 by_cases hm:s.m=t.m
 ·rw[decide_eq_true hm]at hq
  have HC:Hid (nM (y,s.m) (z,t.m)=iI y z):=by show _=_;unfold nM;rw[av hm]
  clear hm
  go_enter Tryz.func97,Tryz.ntmps97
  go_wp2_with (fail);refine(qoH _ _ _ _ y z _ (hs.ext HE.out) (ht.ext HE.out)).mono ?_;rintro e w1 ⟨rfl,ah⟩;go_wp2;go_ret;exact⟨by rw[HC.out];rfl,HE.out.trans ah⟩
 ·rw[decide_eq_false hm]at hq
  have HC:Hid (nM (y,s.m) (z,t.m)=nL s.m t.m):=by show _=_;unfold nM;rw[aj hm]
  clear hm
  go_enter Tryz.func97,Tryz.ntmps97
  go_wp2_with (fail);refine(qDr s.m t.m _).mono ?_;rintro e w1 ⟨rfl,ah⟩;go_wp2;go_ret;exact⟨by rw[HC.out];rfl,HE.out.trans ah⟩
def lI(M:Nat->Prop)(w:World)(v:Value)(n:Nat)(z:Nat->Int)(x:Nat->TE):Prop:=
 n<=1099511627776/\(((∃a cap,v=.slice a 0 cap/\cap<=maxLen)/\n=0)\/∃b off cap,v=.slice (some ⟨b,off,none⟩) n cap/\n<=cap/\cap<=maxLen/\(b<w.heap.size/\¬M b)/\∀i,i<n->w.cell? ⟨b,off+i*6,none⟩=some (.bool (x i).b)/\w.cell? ⟨b,off+i*6+1,none⟩=some (.slice (x i).a (x i).n (x i).p)/\
  w.cell? ⟨b,off+i*6+2,none⟩=some (.int .i64 (x i).m.a)/\w.cell? ⟨b,off+i*6+3,none⟩=some (.int .i64 (x i).m.b)/\w.cell? ⟨b,off+i*6+4,none⟩=some (.int .i64 (x i).m.c)/\w.cell? ⟨b,off+i*6+5,none⟩=some (.int .i64 (x i).m.d))/\
 ∀i,i<n->dh M w (.bool (x i).b) (.slice (x i).a (x i).n (x i).p) (z i)
def bU(n:Nat)(z:Nat->Int)(x:Nat->TE):List Tm:=(List.range n).map λi=>(z i,(x i).m)
theorem eU.x{M:Nat->Prop}{w:World}{v:Value}{l:List Tm}(h:eU M w v l):∃n z x,lI M w v n z x/\l=bU n z x:=by
 obtain⟨n,z,m,c0,c1,⟨dY,hrow⟩,rfl,hI⟩:=h;obtain⟨X,hX⟩:=qjq (m:=m) (λi hi=>(hI i hi).form);refine⟨n,z,X,⟨dY,?_,λi hi=>?_⟩,?_⟩
 ·rcases hrow with h|⟨b,off,cap,hv,h1,h2,h3,h4⟩
  ·exact .inl h
  ·refine .inr ⟨b,off,cap,hv,h1,h2,h3,λi hi=>?_⟩;obtain⟨e0,e1,e2⟩:=hX i hi;have:=h4 i hi;rw[e0,e1, <-e2]at this;exact this
 ·have:=hI i hi;rw[(hX i hi).1,(hX i hi).2.1]at this;exact this
 ·unfold bU dZ;apply List.map_congr_left;intro i hi;rw[(hX i (by simpa using hi)).2.2]
theorem lI.v{M:Nat->Prop}{w:World}{v:Value}{n:Nat}{z:Nat->Int}{x:Nat->TE}(h:lI M w v n z x):eU M w v (bU n z x):=by
 obtain⟨hn,hrow,hI⟩:=h;exact⟨n,z,λi=>(x i).m,λi=>.bool (x i).b,λi=>.slice (x i).a (x i).n (x i).p,⟨hn,hrow⟩,rfl,hI⟩
theorem lI.kp{M:Nat->Prop}{w w':World}{v:Value}{n:Nat}{z:Nat->Int}{x:Nat->TE}(h:lI M w v n z x)(he:Kp M w w'):lI M w' v n z x:=by
 obtain⟨hn,hrow,hI⟩:=h;refine⟨hn,?_,λi hi=>(hI i hi).kp he⟩;rcases hrow with h|⟨b,off,cap,hv,h1,h2,h3,h4⟩
 ·exact .inl h
 ·refine .inr ⟨b,off,cap,hv,h1,h2,⟨bB h3.1 he.1,h3.2⟩,λi hi=>?_⟩;rw[he.cell h3.1 h3.2,he.cell h3.1 h3.2,he.cell h3.1 h3.2,he.cell h3.1 h3.2,he.cell h3.1 h3.2,he.cell h3.1 h3.2];exact h4 i hi
theorem lI.ext{M:Nat->Prop}{w w':World}{v:Value}{n:Nat}{z:Nat->Int}{x:Nat->TE}(h:lI M w v n z x)(he:Ext w w'):lI M w' v n z x:=h.kp (Kp.gZ he)
theorem lI.more{M M':Nat->Prop}{w:World}{v:Value}{n:Nat}{z:Nat->Int}{x:Nat->TE}(h:lI M w v n z x)(hm:∀g,M' g->M g\/w.heap.size<=g):lI M' w v n z x:=by
 obtain⟨hn,hrow,hI⟩:=h;refine⟨hn,?_,λi hi=>(hI i hi).more hm⟩;rcases hrow with h|⟨b,off,cap,hv,h1,h2,h3,h4⟩
 ·exact .inl h
 ·exact .inr ⟨b,off,cap,hv,h1,h2,⟨h3.1,λk=>(hm b k).elim h3.2 (by omega)⟩,h4⟩
theorem eU.kp{M:Nat->Prop}{w w':World}{v:Value}{l:List Tm}(h:eU M w v l)(he:Kp M w w'):eU M w' v l:=by
 obtain⟨n,z,x,hx,rfl⟩:=h.x;exact(hx.kp he).v
theorem eU.ext{M:Nat->Prop}{w w':World}{v:Value}{l:List Tm}(h:eU M w v l)(he:Ext w w'):eU M w' v l:=h.kp (Kp.gZ he)
theorem eU.more{M M':Nat->Prop}{w:World}{v:Value}{l:List Tm}(h:eU M w v l)(hm:∀g,M' g->M g\/w.heap.size<=g):eU M' w v l:=by
 obtain⟨n,z,x,hx,rfl⟩:=h.x;exact(hx.more hm).v
theorem mq.x{M:Nat->Prop}{B:Nat}{w:World}{v:Value}{l:List Tm}(h:mq M B w v l):∃n z x,lI M w v n z x/\l=bU n z x/\∀i,i<n->dH M w (.bool (x i).b) (.slice (x i).a (x i).n (x i).p) (z i):=by
 obtain⟨n,z,x,hO,hI,rfl,hn,hM⟩:=h;refine⟨n,z,x,⟨hn,?_,λi hi=>((hI i hi).more (λb hb=>.inl (.inl hb))).dB⟩,rfl,λi hi=>(hI i hi).more (λb hb=>.inl (.inl hb))⟩;rcases hO with h|⟨g,cap,F,rfl,hb,hB,h1,h2,hF⟩
 ·exact .inl ⟨⟨none,0,h.1,bu _⟩,h.2⟩
 ·have Dm:n*6<=cap*6:=fq _ h1;refine .inr ⟨g,0,cap,rfl,h1,h2,⟨hB.lt,hM g rfl⟩,λi hi=>?_⟩;simp only[Nat.zero_add];rw[hB.cell (by omega),hB.cell (by omega),hB.cell (by omega),hB.cell (by omega),hB.cell (by omega),hB.cell (by omega),hF _ (by omega),hF _ (by omega),hF _ (by omega),hF _ (by omega),hF _ (by omega),hF _ (by omega)];unfold tx;rw[FJ,FK,OZ,O0,O1,O3];exact⟨rfl,rfl,rfl,rfl,rfl,rfl⟩
theorem mq.dB{M:Nat->Prop}{B:Nat}{w:World}{v:Value}{l:List Tm}(h:mq M B w v l):eU M w v l:=by
 obtain⟨n,z,x,hx,rfl,_⟩:=h.x;exact hx.v
theorem lI.form{M:Nat->Prop}{w:World}{v:Value}{n:Nat}{z:Nat->Int}{x:Nat->TE}(h:lI M w v n z x):∃a cap,v=.slice a n cap:=by
 obtain⟨_,h|⟨b,off,cap,rfl,_⟩,_⟩:=h
 ·obtain⟨⟨_,_,rfl,_⟩,rfl⟩:=h;exact⟨_,_,rfl⟩
 ·exact⟨_,_,rfl⟩
theorem lI.at{M:Nat->Prop}{w:World}{a:Option Addr}{cap n:Nat}{z:Nat->Int}{x:Nat->TE}(h:lI M w (.slice a n cap) n z x)(k:Nat)(hk:k<n):∃b off,a=some ⟨b,off,none⟩/\n<=cap/\cap<=maxLen/\b<w.heap.size/\w.cell? ⟨b,off+k*6,none⟩=some (.bool (x k).b)/\w.cell? ⟨b,off+k*6+1,none⟩=some (.slice (x k).a (x k).n (x k).p)/\
 w.cell? ⟨b,off+k*6+2,none⟩=some (.int .i64 (x k).m.a)/\w.cell? ⟨b,off+k*6+3,none⟩=some (.int .i64 (x k).m.b)/\w.cell? ⟨b,off+k*6+4,none⟩=some (.int .i64 (x k).m.c)/\w.cell? ⟨b,off+k*6+5,none⟩=some (.int .i64 (x k).m.d):=by
 obtain⟨_,h|⟨b,off,cap',hv,h1,h2,h3,h4⟩,_⟩:=h
 ·omega
 ·simp only[Value.slice.injEq,true_and]at hv;obtain⟨rfl,rfl⟩:=hv;exact⟨b,off,rfl,h1,h2,h3.1,h4 k hk⟩
theorem qgb(n:Nat)(z:Nat->Int)(x:Nat->TE):bU (n+1) z x=bU n z x++[(z n,(x n).m)]:=by
 unfold bU;rw[List.range_succ,List.map_append];rfl
theorem qux(l r:List Tm)(k:Nat)(h:∀i,i<k->l[i]?=r[i]?/\i<l.length):fI l r=fI (l.drop k) (r.drop k):=by
 induction k generalizing l r with
 |zero=>rfl
 |succ k ih=>
  obtain⟨h0,hl⟩:=h 0 (by omega)
  cases l with
  |nil=>simp at hl
  |cons s l=>
   cases r with
   |nil=>simp at h0
   |cons t r=>
    simp at h0;subst h0;simp only[fI,(Ct s s).2 rfl,if_true,List.drop_succ_cons]
    exact ih l r λi hi=>by have:=h (i+1) (by omega);simpa using this
theorem qga(n:Nat)(z:Nat->Int)(x:Nat->TE)(i:Nat)(h:i<n):(bU n z x)[i]?=some (z i,(x i).m):=by
 unfold bU;rw[List.getElem?_map,List.getElem?_range h];rfl
theorem zJ(n:Nat)(z:Nat->Int)(x:Nat->TE):(bU n z x).length=n:=by simp[bU]
theorem Yx(n k:Nat)(z:Nat->Int)(x:Nat->TE)(h:n<=k):(bU n z x).drop k=[]:=List.drop_eq_nil_of_le (by rw[zJ];exact h)
theorem Yw(n k:Nat)(z:Nat->Int)(x:Nat->TE)(h:k<n):(bU n z x).drop k=(z k,(x k).m)::(bU n z x).drop (k+1):=by
 rw[List.drop_eq_getElem_cons (by rw[zJ];exact h)]
 congr 1
 have:=qga n z x k h;rw[List.getElem?_eq_getElem (by rw[zJ];exact h)]at this;exact Option.some.inj this
theorem qDq{M:Nat->Prop}(v v':Value)(n n':Nat)(z z':Nat->Int)(x x':Nat->TE)(w:World)(h:lI M w v n z x)(h':lI M w v' n' z' x'):
 Calls Tryz.prog 96 #[v,v',.func (.func 97) #[] #[]] w λe w'=>e=.returned (.int .i64 (fI (bU n z x) (bU n' z' x')))/\Ext w w':=by
 obtain⟨a,c,rfl⟩:=h.form;obtain⟨a',c',rfl⟩:=h'.form;have hL:=h.1;have si:=h'.1;have HX:=ae h;have Qq:=ae h';clear h h'
 go_enter Tryz.func96,Tryz.ntmps96
 go_wp2
 go_loopw [13] (λi wr=>∃k:Nat,k<=n/\k<=n'/\i=.int .i64 k/\Hid (∀j,j<k->(z j,(x j).m)=(z' j,(x' j).m))/\Ext w wr) (λi _=>n-(intOf i).toNat)
 case atStart=>exact⟨0,bu _,bu _,rfl,λj hj=>by omega,ai _⟩
 case round=>
  obtain⟨k,hk,hk',rfl,HQ,bT⟩:=hrel
  have hdrop:fI (bU n z x) (bU n' z' x')=fI ((bU n z x).drop k) ((bU n' z' x').drop k):=qux _ _ k λi hi=>by
   rw[qga n z x i (by omega),qga n' z' x' i (by omega),HQ.out i hi,zJ];exact⟨rfl,by omega⟩
  have HD:=ae hdrop;clear hdrop;have hsz:=bT.size
  by_cases hlt:k<n
  ·obtain⟨b,off,rfl,jG,eu,hb,x0,x1,x2,x3,x4,x5⟩:=HX.out.at k hlt;rw[<-bT.cell hb]at x0 x1 x2 x3 x4 x5
   have gD:b<wr.heap.size:=by omega
   by_cases hlt':k<n'
   ·obtain⟨b',off',rfl,qyD,qmg,hb',y0,y1,y2,y3,y4,y5⟩:=Qq.out.at k hlt';rw[<-bT.cell hb']at y0 y1 y2 y3 y4 y5
    have qmc:b'<wr.heap.size:=by omega
    have Kc:=HX.out.2.2 k hlt;have vS:=Qq.out.2.2 k hlt';have rR:=ae Kc;have wX:=ae vS;clear Kc vS;go_wp2_with (fail);have aQ:Ext wr ((wr.alloc (.cells #[.bool (x k).b,.slice (x k).a (x k).n (x k).p,.int .i64 (x k).m.a,.int .i64 (x k).m.b,.int .i64 (x k).m.c,.int .i64 (x k).m.d] 78)).alloc (.cells #[.bool (x' k).b,.slice (x' k).a (x' k).n (x' k).p,.int .i64 (x' k).m.a,.int .i64 (x' k).m.b,.int .i64 (x' k).m.c,.int .i64 (x' k).m.d] 78)):=((ai wr).alloc _).alloc _;refine(qDp (x k) (x' k) (z k) (z' k) _ (rR.out.ext (bT.trans aQ)) (wX.out.ext (bT.trans aQ))).mono ?_;rintro e w1 ⟨rfl,ah⟩;have dF:=(bT.trans aQ).trans ah;clear x0 x1 x2 x3 x4 x5 y0 y1 y2 y3 y4 y5
    by_cases hc:nM (z k,(x k).m) (z' k,(x' k).m)=0
    ·have t0:(nM (z k,(x k).m) (z' k,(x' k).m)!=0)=false:=by simp[hc]
     have zP:=ae ((Ct _ _).1 hc);clear hc;go_wp2
     go_roundw
     case rel=>exact⟨k+1,by omega,by omega,by go_num,λj hj=>by
      by_cases lC:j=k
      ·subst lC;exact zP.out
      ·exact HQ.out j (by omega),dF⟩
     case measure=>simp[intOf];omega
    ·have t0:(nM (z k,(x k).m) (z' k,(x' k).m)!=0)=true:=by simp[hc]
     have HR:Hid (fI (bU n z x) (bU n' z' x')=nM (z k,(x k).m) (z' k,(x' k).m)):=by
      show _=_;rw[HD.out,Yw n k z x hlt,Yw n' k z' x' hlt',fI,aj hc]
     clear hc;go_wp2;go_ret;exact⟨by rw[HR.out];rfl,dF⟩
   ·have HR:Hid (fI (bU n z x) (bU n' z' x')=1):=by
     show _=_;rw[HD.out,Yw n k z x hlt,Yx n' k z' x' (by omega),fI]
    go_wp2;go_ret;exact⟨by rw[HR.out];rfl,bT.alloc _⟩
  ·have:k=n:=by omega
   subst this
   by_cases hlt':k<n'
   ·have HR:Hid (fI (bU k z x) (bU n' z' x')= -1):=by
     show _=_;rw[HD.out,Yw n' k z' x' hlt',Yx k k z x (by omega),fI]
    go_wp2;go_ret;exact⟨by rw[HR.out];rfl,bT⟩
   ·have HR:Hid (fI (bU k z x) (bU n' z' x')=0):=by
     show _=_;rw[HD.out,Yx n' k z' x' (by omega),Yx k k z x (by omega),fI]
    go_wp2;go_ret;exact⟨by rw[HR.out];rfl,bT⟩
theorem qrd(M:Nat->Prop)(v v':Value)(l r:List Tm)(w:World)(hM:Mb M w)(h:eU M w v l)(h':eU M w v' r)(hL:aF (aB l)<=1099511627776)(si:aF (aB r)<=1099511627776):
 Calls Tryz.prog 59 #[v,v'] w λe w'=>e=.returned (.int .i64 (fI (norm l) (norm r)))/\Ext w w':=by
 go_enter Tryz.func59,Tryz.ntmps59
 go_wp2_with (fail);refine(Lx M v l w hM h hL).mono ?_;rintro e w1 ⟨u,rfl,hu,ah⟩;go_wp2_with (fail);refine(Lx M v' r w1 (hM.ext ah) (h'.ext ah) si).mono ?_;rintro e w2 ⟨u',rfl,hu',az⟩;obtain⟨n,z,x,hx,Bh,_⟩:=hu.x;obtain⟨n',z',x',zk,qok,_⟩:=hu'.x;have UZ:=ae Bh;have qtB:=ae qok;clear Bh qok;go_wp2_with (fail);refine(qDq u u' n n' z z' x x' w2 (hx.ext az) zk).mono ?_;rintro e w3 ⟨rfl,aN⟩;go_wp2;go_ret;exact⟨by rw[UZ.out,qtB.out];rfl,(ah.trans az).trans aN⟩
theorem qDv(M:Nat->Prop)(v v':Value)(l r:List Tm)(w:World)(hM:Mb M w)(h:eU M w v l)(h':eU M w v' r)(hL:aF (aB l)<=1099511627776)(si:aF (aB r)<=1099511627776):
 Calls Tryz.prog 60 #[v,v'] w λe w'=>e=.returned (.bool (decide (norm l=norm r)))/\Ext w w':=by
 have HC:Hid ((fI (norm l) (norm r)==0)=decide (norm l=norm r)):=by
  show _=_;have:=JZ (norm l) (norm r)
  by_cases hh:norm l=norm r
  ·rw[decide_eq_true hh,this.2 hh];rfl
  ·rw[decide_eq_false hh];simp[this,hh]
 go_enter Tryz.func60,Tryz.ntmps60
 go_wp2_with (fail);refine(qrd M v v' l r w hM h h' hL si).mono ?_;rintro e w1 ⟨rfl,ah⟩;go_wp2;go_ret;exact⟨by rw[<-HC.out];rfl,ah⟩
end Go.Proofs.YtaafefeafonhdaaGreat
