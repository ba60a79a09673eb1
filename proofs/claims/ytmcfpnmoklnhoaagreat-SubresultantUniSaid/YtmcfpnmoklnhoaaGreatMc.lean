/- Mc -/
import Derived.Shelf.SlSortCmp.WholeK
import Derived.Shelf.Small.Bits
import Derived.Ground.SlsfProg
import Derived.Ground.NamesProg
import Derived.Test.YtmcfpnmoklnhoaaGreatProg
import Derived.Test.YtmcfpnmoklnhoaaGreatMb
set_option linter.unusedVariables false
set_option maxRecDepth 100000
set_option maxHeartbeats 400000000
set_option linter.unusedSimpArgs false
namespace Go.Proofs
open Go.Shelf
def Tryz.qxG:Go.Shelf.Ren:=⟨λ |14=>197|20=>207|21=>208|22=>209|23=>210|24=>211|25=>212|26=>213|27=>214|46=>216|47=>199|48=>200|49=>217|50=>218|15=>154|57=>219|28=>179|29=>180|n=>n,λ |24=>129|22=>70|3=>3|25=>175|4=>4|0=>0|46=>196|45=>195|50=>191|66=>214|39=>156|55=>108|70=>218|76=>226|77=>227|53=>155|5=>5|9=>9|n=>n,λ |n=>n⟩
theorem Tryz.pdqTerm:Go.Proofs.SlLaysF0.n14 Tryz.prog Tryz.qxG:={
 mixed:=by kernel_rfl
 f14:=⟨Tryz.f197.name,by decide,Tryz.func197.trans (congrArg some (by kernel_rfl))⟩
 f15:=Tryz.func154.trans (congrArg some (by kernel_rfl))
 f20:=⟨Tryz.f207.name,by decide,Tryz.func207.trans (congrArg some (by kernel_rfl))⟩
 f21:=⟨Tryz.f208.name,by decide,Tryz.func208.trans (congrArg some (by kernel_rfl))⟩
 f22:=⟨Tryz.f209.name,by decide,Tryz.func209.trans (congrArg some (by kernel_rfl))⟩
 f23:=⟨Tryz.f210.name,by decide,Tryz.func210.trans (congrArg some (by kernel_rfl))⟩
 f24:=⟨Tryz.f211.name,by decide,Tryz.func211.trans (congrArg some (by kernel_rfl))⟩
 f25:=⟨Tryz.f212.name,by decide,Tryz.func212.trans (congrArg some (by kernel_rfl))⟩
 f26:=⟨Tryz.f213.name,by decide,Tryz.func213.trans (congrArg some (by kernel_rfl))⟩
 f27:=⟨Tryz.f214.name,by decide,Tryz.func214.trans (congrArg some (by kernel_rfl))⟩
 f28:=Tryz.func179.trans (congrArg some (by kernel_rfl))
 f29:=Tryz.func180.trans (congrArg some (by kernel_rfl))
 f46:=⟨Tryz.f216.name,by decide,Tryz.func216.trans (congrArg some (by kernel_rfl))⟩
 f47:=Tryz.func199.trans (congrArg some (by kernel_rfl))
 f48:=Tryz.func200.trans (congrArg some (by kernel_rfl))
 f49:=⟨Tryz.f217.name,by decide,Tryz.func217.trans (congrArg some (by kernel_rfl))⟩
 f50:=⟨Tryz.f218.name,by decide,Tryz.func218.trans (congrArg some (by kernel_rfl))⟩
 f57:=⟨Tryz.f219.name,by decide,Tryz.func219.trans (congrArg some (by kernel_rfl))⟩
 t0:=Tryz.underlying0
 a0:=Tryz.isAgg0
 z0:=Tryz.sizeOf0
 v0:=Tryz.zeroValue0
 t3:=Tryz.underlying3
 a3:=Tryz.isAgg3
 z3:=Tryz.sizeOf3
 v3:=Tryz.zeroValue3
 t4:=Tryz.underlying4
 a4:=Tryz.isAgg4
 z4:=Tryz.sizeOf4
 v4:=Tryz.zeroValue4
 t5:=Tryz.underlying5
 a5:=Tryz.isAgg5
 z5:=Tryz.sizeOf5
 v5:=Tryz.zeroValue5
 t9:=Tryz.underlying9
 a9:=Tryz.isAgg9
 z9:=Tryz.sizeOf9
 v9:=Tryz.zeroValue9
 t22:=Tryz.underlying70
 a22:=Tryz.isAgg70
 z22:=Tryz.sizeOf70
 v22:=Tryz.zeroValue70
 t25:=Tryz.underlying175
 a25:=Tryz.isAgg175
 z25:=Tryz.sizeOf175
 v25:=Tryz.zeroValue175
 t39:=Tryz.underlying156
 a39:=Tryz.isAgg156
 z39:=Tryz.sizeOf156
 v39:=Tryz.zeroValue156
 t45:=Tryz.underlying195
 a45:=Tryz.isAgg195
 z45:=Tryz.sizeOf195
 v45:=Tryz.zeroValue195
 t46:=Tryz.underlying196
 a46:=Tryz.isAgg196
 z46:=Tryz.sizeOf196
 v46:=Tryz.zeroValue196
 t50:=Tryz.underlying191
 a50:=Tryz.isAgg191
 z50:=Tryz.sizeOf191
 v50:=Tryz.zeroValue191
 t53:=Tryz.underlying155
 a53:=Tryz.isAgg155
 z53:=Tryz.sizeOf155
 v53:=Tryz.zeroValue155
 t55:=Tryz.underlying108
 a55:=Tryz.isAgg108
 z55:=Tryz.sizeOf108
 v55:=Tryz.zeroValue108
 t66:=Tryz.underlying214
 a66:=Tryz.isAgg214
 z66:=Tryz.sizeOf214
 v66:=Tryz.zeroValue214
 t70:=Tryz.underlying218
 a70:=Tryz.isAgg218
 z70:=Tryz.sizeOf218
 v70:=Tryz.zeroValue218
 t76:=Tryz.underlying226
 a76:=Tryz.isAgg226
 z76:=Tryz.sizeOf226
 v76:=Tryz.zeroValue226
 t77:=Tryz.underlying227
 a77:=Tryz.isAgg227
 z77:=Tryz.sizeOf227
 v77:=Tryz.zeroValue227}
def Tryz.qqY:Go.Shelf.Ren:=⟨λ |125=>154|128=>179|129=>180|n=>n,λ |46=>156|3=>3|51=>155|53=>108|4=>4|5=>5|9=>9|n=>n,λ |n=>n⟩
theorem Tryz.bitsLen:Go.Proofs.Lays.n125 Tryz.prog Tryz.qqY:={
 mixed:=by kernel_rfl
 f125:=Tryz.func154.trans (congrArg some (by kernel_rfl))
 f128:=Tryz.func179.trans (congrArg some (by kernel_rfl))
 f129:=Tryz.func180.trans (congrArg some (by kernel_rfl))
 t3:=Tryz.underlying3
 a3:=Tryz.isAgg3
 z3:=Tryz.sizeOf3
 v3:=Tryz.zeroValue3
 t4:=Tryz.underlying4
 a4:=Tryz.isAgg4
 z4:=Tryz.sizeOf4
 v4:=Tryz.zeroValue4
 t5:=Tryz.underlying5
 a5:=Tryz.isAgg5
 z5:=Tryz.sizeOf5
 v5:=Tryz.zeroValue5
 t9:=Tryz.underlying9
 a9:=Tryz.isAgg9
 z9:=Tryz.sizeOf9
 v9:=Tryz.zeroValue9
 t46:=Tryz.underlying156
 a46:=Tryz.isAgg156
 z46:=Tryz.sizeOf156
 v46:=Tryz.zeroValue156
 t51:=Tryz.underlying155
 a51:=Tryz.isAgg155
 z51:=Tryz.sizeOf155
 v51:=Tryz.zeroValue155
 t53:=Tryz.underlying108
 a53:=Tryz.isAgg108
 z53:=Tryz.sizeOf108
 v53:=Tryz.zeroValue108}
end Go.Proofs
namespace Go.Proofs.YtmcfpnmoklnhoaaGreat
open Go.RowKit
structure TE where
 b:Bool
 a:Option Addr
 n:Nat
 p:Nat
 m:Mo
instance:Inhabited TE:=⟨⟨false,none,0,0,⟨0,0,0,0⟩⟩⟩
def yB(x:TE):List Value:=[.bool x.b,.slice x.a x.n x.p,.int .i64 x.m.a,.int .i64 x.m.b,.int .i64 x.m.c,.int .i64 x.m.d]
def tx(x:Nat->TE):Nat->Value:=lF (λi=>.bool (x i).b) (λi=>.slice (x i).a (x i).n (x i).p) (λi=>(x i).m)
def Bv(x y:TE):Int:=qg y.m x.m
theorem qy0(x y:TE)(w:World):Calls Tryz.prog 169 #[.agg #[.bool x.b,.slice x.a x.n x.p,.int .i64 x.m.a,.int .i64 x.m.b,.int .i64 x.m.c,.int .i64 x.m.d],.agg #[.bool y.b,.slice y.a y.n y.p,.int .i64 y.m.a,.int .i64 y.m.b,.int .i64 y.m.c,.int .i64 y.m.d]] w λe w'=>e=.returned (.int .i64 (Bv x y))/\Gr w w':=by
 have hE:Hid (Gr w ((w.alloc (.cells #[.bool x.b,.slice x.a x.n x.p,.int .i64 x.m.a,.int .i64 x.m.b,.int .i64 x.m.c,.int .i64 x.m.d] 129)).alloc (.cells #[.bool y.b,.slice y.a y.n y.p,.int .i64 y.m.a,.int .i64 y.m.b,.int .i64 y.m.c,.int .i64 y.m.d] 129))):=((Gr.refl w).alloc _).alloc _
 go_enter Tryz.func169,Tryz.ntmps169
 go_wp2_with (fail);refine(qyZ y.m x.m _).mono ?_;rintro e w1 ⟨rfl,af⟩;go_wp2;go_ret;exact⟨rfl,hE.out.trans af⟩
theorem qoq:Go.Sort.SWO (Go.Proofs.ltOf Bv) where
 irrefl x:=by
  unfold Go.Proofs.ltOf Bv;simp only[decide_eq_false_iff_not,TY];exact Mo.lt_irrefl _
 trans x y z h1 h2:=by
  unfold Go.Proofs.ltOf Bv at*;simp only[decide_eq_true_eq,TY]at*;exact Mo.lt_trans h2 h1
 ntrans x y z h1 h2:=by
  unfold Go.Proofs.ltOf Bv at*;simp only[decide_eq_false_iff_not,TY]at*;intro h3;rcases Mo.QP y.m x.m with k|k|k
  ·exact h1 k
  ·rw[k]at h2;exact h2 h3
  ·exact h2 (Mo.lt_trans h3 k)
theorem qrk(blk off size:Nat)(w:World):Go.Proofs.CmpLays Tryz.prog 169 #[] yB 6 Bv blk off size w:=
 λ_ _ _ _ x y=>(qy0 x y _).mono λ_ _⟨he,q,os,hg⟩=>⟨he,q,os,hg⟩
theorem qqS(w:World):(isAgg 129).run Tryz.prog w=.ok true w:=by kernel_rfl
theorem qyX(w:World):(Go.sizeOf 129).run Tryz.prog w=.ok 6 w:=by kernel_rfl
theorem qzt(x:TE):∀v∈yB x,v.oneCell'=true:=by
 intro v hv;simp only[yB,List.mem_cons,List.not_mem_nil,or_false]at hv;rcases hv with rfl|rfl|rfl|rfl|rfl|rfl<;>rfl
def wY(x:Nat->TE)(n:Nat):Array TE:=((List.range n).map x).toArray
theorem Wm(x:Nat->TE)(n:Nat):(wY x n).size=n:=by simp[wY]
theorem qzs(x:Nat->TE)(n i:Nat)(h:i<n):(wY x n)[i]! =x i:=by
 simp[wY,h]
theorem qzH(x:TE)(k:Nat)(hk:k<6)(c:Nat->TE)(i:Nat)(h:c i=x):(yB x)[k]! =tx c (i*6+k):=by
 subst h;unfold tx
 match k,hk with
 |0,_=>rw[Nat.add_zero,M4];rfl
 |1,_=>rw[M5];rfl
 |2,_=>rw[Ri];rfl
 |3,_=>rw[Rj];rfl
 |4,_=>rw[Rk];rfl
 |5,_=>rw[Rl];rfl
theorem qh8(d:Array TE)(x:Nat->TE)(n j:Nat)(hd:d.size=n)(hx:∀i,i<n->d[i]! =x i)(hj:j<n*6):(Go.Sort.flatK yB 6 d)[j]! =tx x j:=by
 rw[Go.Sort.get_flatK _ _ _ _ (by rw[hd];exact hj),qzH _ (j%6) (Nat.mod_lt _ (by decide)) x (j/6) (hx _ (by omega)).symm]
 congr 1
 omega
theorem qu6{w:World}{g cap n:Nat}{t:TypeId}{F:Nat->Value}{x:Nat->TE}(hB:ak w g t (cap*6) F)(hn:n<=cap)(hF:∀j,j<n*6->F j=tx x j):Go.Sort.HoldsK yB 6 w g 0 (wY x n):=by
 intro j hj;rw[Go.Sort.size_flatK,Wm]at hj;have Ch:n*6<=cap*6:=Nat.mul_le_mul_right _ hn;rw[Nat.zero_add,hB.cell (by omega),hF j hj,qh8 (wY x n) x n j (Wm _ _) (λi hi=>qzs x n i hi) hj];exact⟨rfl,hB.frozen j⟩
theorem qq1{w:World}{g cap n q:Nat}{t:TypeId}{F:Nat->Value}(hB:ak w g t (cap*6) F)(d:Array TE)(os:Array Obj)(hd:d.size=n)(hn:n<=cap):
 ak (Go.Proofs.sortWorldK yB 6 w g 0 q d os) g t (cap*6) (λj=>if j<n*6 then tx (λi=>d[i]!) j else F j)/\w.grownBy (Go.Proofs.sortWorldK yB 6 w g 0 q d os) (some g):=by
 obtain⟨cur,hg,hs,hc⟩:=hB;have hlt:g<w.heap.size:=(Array.getElem?_eq_some_iff.1 hg).1
 have qky:∀k,k<w.heap.size->(Go.Proofs.sortWorldK yB 6 w g 0 q d os).heap[k]?=(w.heap.modify g (Go.Sort.onCells (Go.Sort.putCells id 0 (Go.Sort.flatK yB 6 d))))[k]?:=by
  intro k hk;unfold Go.Proofs.sortWorldK;rw[Go.Sort.heap_grow_old _ _ (by simp[Go.Sort.putRowK,Go.Sort.putRow,Go.Sort.mapBlock,Go.Sort.ahead];exact hk)];rfl
 constructor
 ·refine⟨Go.Sort.putCells id 0 (Go.Sort.flatK yB 6 d) cur,?_,by simp[Go.Sort.putCells,hs],λi hi=>?_⟩
  ·rw[qky g hlt];simp[Array.getElem?_modify,hg,Go.Sort.onCells]
  ·simp only[Go.Sort.putCells,Array.getElem?_mapIdx,hc i hi,Option.map_some,Nat.zero_le,true_and,Nat.zero_add,Go.Sort.size_flatK,hd,Nat.sub_zero,id_eq]
   by_cases h:i<n*6
   ·rw[if_pos h,if_pos h,qh8 d (λi=>d[i]!) n i hd (λ_ _=>rfl) h]
   ·rw[if_neg h,if_neg h]
 ·refine⟨rfl,rfl,rfl,?_,λk hk hne=>?_⟩
  ·unfold Go.Proofs.sortWorldK;rw[Go.Sort.size_grow];simp[Go.Sort.putRowK,Go.Sort.putRow,Go.Sort.mapBlock,Go.Sort.ahead]
  ·rw[qky k hk,Array.getElem?_modify,if_neg (λe=>hne (by rw[e]))]
theorem qoQ(n:Nat)(h:n<18446744073709551616):IntKind.u64.wrap (n:Int)=n:=IntWalk.u64_in _ (by omega)
theorem qgR(n:Nat)(w:World)(h:n<18446744073709551616):Calls Tryz.prog 154 #[.int .u64 (n:Int)] w λe w'=>e=.returned (.int .i64 (Lib.bitLen n:Nat))/\w'=w:=by
 have h:=Any.bits_Len Tryz.bitsLen (n:Int) w (by omega) (by omega);rw[Int.toNat_natCast]at h;exact h
theorem qy3{w:World}{g cap n:Nat}{F:Nat->Value}{x:Nat->TE}(hB:ak w g 129 (cap*6) F)(hn:n<=cap)(hL:n<=1099511627776)(hF:∀j,j<n*6->F j=tx x j):
 Calls Tryz.prog 168 #[.slice (some ⟨g,0,none⟩) n cap,.func (.func 169) #[] #[]] w λe w'=>e=.returned (.tuple #[])/\
  ∃(x':Nat->TE)(F':Nat->Value),ak w' g 129 (cap*6) F'/\(∀j,j<n*6->F' j=tx x' j)/\((List.range n).map x').Perm ((List.range n).map x)/\(∀i j,i<j->j<n->¬Mo.lt (x' i).m (x' j).m)/\w.grownBy w' (some g):=by
 have hH:=qu6 hB hn hF;have hs:=Wm x n
 have eg:∀args w,(callFunc 169 args).run Tryz.prog w=.ok (.enter 169 args) w:=λ_ _=>by kernel_rfl
 have hlim:Lib.bitLen n<4611686018427387904:=Nat.lt_of_le_of_lt (Lib.bitLen_le n 62 (by omega) (by omega)) (by omega);have hp:=AnyQ.pdqsortCmpFunc_all (P:=Tryz.prog) Tryz.pdqTerm 6 qqS qyX yB Bv 169 #[] qoq g 0 cap (wY x n) w eg (qrk g 0 (wY x n).size w) ⟨λ_=>rfl,qzt,hH,hB.lt⟩ (n+1) 0 n (Lib.bitLen n) (wY x n) w (by omega) rfl (SWK.start hH) (Nat.zero_le _) (by rw[hs];exact Nat.le_refl _) (by rw[hs];omega) hlim (Or.inl rfl);have qcl:=Go.Sort.pdq_sorts (Go.Proofs.ltOf Bv) qoq (wY x n) 0 n (Lib.bitLen n) true true (Nat.zero_le _) (by rw[hs];exact Nat.le_refl _) (Or.inl rfl);rw[hs]at hp;change Calls Tryz.prog 197 _ _ _ at hp;generalize Go.Sort.pdq (Go.Proofs.ltOf Bv) (wY x n) 0 n (Lib.bitLen n) true true=d' at hp qcl;have HP:=Lib.hid hp;have HS:=Lib.hid qcl;have hwr:=qoQ n (by omega);have HBL:=Lib.hid (qgR n w (by omega));clear hp qcl hlim hH hs;generalize Lib.bitLen n=bl at*
 go_enter Tryz.func168,Tryz.ntmps168
 go_wp2_with (fail);refine HBL.out.mono ?_;rintro e w1 ⟨rfl,rfl⟩;go_wp2_with (fail);refine HP.out.mono ?_;rintro e w2 ⟨rfl,q,os,rfl⟩;go_wp2
 go_end0
 obtain⟨⟨hsz,_,Qb⟩,Va⟩:=HS.out;rw[Wm]at hsz;obtain⟨h1,h2⟩:=qq1 (q:=q) hB d' os hsz hn;refine⟨rfl,λi=>d'[i]!,_,h1,λj hj=>by rw[if_pos hj],?_,λi j jL hj=>?_,h2⟩
 ·have e1:(d'.extract 0 n).toList=(List.range n).map (λi=>d'[i]!):=by
   apply List.ext_getElem?;intro i
   by_cases hi:i<n
   ·simp[hi,hsz]
   ·rw[List.getElem?_eq_none (by simp;omega),List.getElem?_eq_none (by simp;omega)]
  have e2:((wY x n).extract 0 n).toList=(List.range n).map x:=by
   simp[wY,List.take_of_length_le]
  rw[e1,e2]at Qb;exact Qb
 ·have:=Va i j (Nat.zero_le _) jL hj;unfold Go.Proofs.ltOf Bv at this;simpa[TY]using this
theorem qvT(fv:Value)(w:World):Calls Tryz.prog 207 #[.slice none 0 0,.int .i64 0,.int .i64 0,fv] w λe w'=>e=.returned (.tuple #[])/\w=w':=by
 go_enter Tryz.func207,Tryz.ntmps207
 go_wp2;refine wp_loop_rounds 1 ?_;rw[rounds_succ];go_wp2
 go_end0
 exact⟨rfl,rfl⟩
theorem qxH(fv:Value)(w:World):Calls Tryz.prog 197 #[.slice none 0 0,.int .i64 0,.int .i64 0,.int .i64 0,fv] w λe w'=>e=.returned (.tuple #[])/\w=w':=by
 go_enter Tryz.func197,Tryz.ntmps197
 go_wp2;refine wp_loop_rounds 1 ?_;rw[rounds_succ];go_wp2_with (fail);refine(qvT fv w).mono ?_;rintro e w1 ⟨rfl,rfl⟩;go_wp2;refine bodyPost_ret (results_none rfl _ _ _) rfl ?_;exact⟨rfl,rfl⟩
theorem qy4(fv:Value)(w:World):Calls Tryz.prog 168 #[.slice none 0 0,fv] w λe w'=>e=.returned (.tuple #[])/\w=w':=by
 have hb:=qgR 0 w (by omega)
 have h0:Lib.bitLen 0=0:=by decide
 rw[h0]at hb;have hwr:IntKind.u64.wrap ((0:Nat):Int)=(0:Nat):=qoQ 0 (by omega);have HB:=Lib.hid hb;clear hb h0
 go_enter Tryz.func168,Tryz.ntmps168
 go_wp2_with (fail);refine HB.out.mono ?_;rintro e w1 ⟨rfl,rfl⟩;go_wp2_with (fail);refine(qxH fv _).mono ?_;rintro e w2 ⟨rfl,rfl⟩;go_wp2
 go_end0
 exact⟨rfl,rfl⟩
def eO(n:Nat)(z:Nat->Int)(m:Nat->Mo):List Tm:=(List.range n).map λi=>(z i,m i)
def MR(M:Nat->Prop)(v:Value):Nat->Prop:=λb=>M b\/v.ownBlock=some b
def uV(M:Nat->Prop)(base:Nat)(w:World)(v:Value)(l:List Tm):Prop:=
 ∃(n:Nat)(z:Nat->Int)(x:Nat->TE),Own w base 129 6 v n (tx x)/\(∀i,i<n->dJ (MR M v) w (.bool (x i).b) (.slice (x i).a (x i).n (x i).p) (z i))/\l=(List.range n).map (λi=>(z i,(x i).m))/\n<=1099511627776/\(∀g,v.ownBlock=some g->¬M g)
def Db(n:Nat)(m:Nat->Mo):Prop:=(∀i j,i<j->j<n->m i≠m j)/\∀i,i<n->(m i).nn=true
theorem Db.inj{n:Nat}{m:Nat->Mo}(h:Db n m){i j:Nat}(hi:i<n)(hj:j<n)(e:m i=m j):i=j:=by
 rcases Nat.lt_trichotomy i j with k|k|k
 ·exact absurd e (h.1 i j k hj)
 ·exact k
 ·exact absurd e.symm (h.1 j i k hi)
theorem qzy{n:Nat}{z:Nat->Int}{m:Nat->Mo}(h:Db n m){r:List Tm}(hp:r.Perm ((eO n z m).filter λt=>decide (t.1≠0)))(hs:r.Pairwise (λs t=>¬Mo.lt s.2 t.2)):r=norm (eO n z m):=by
 have hd:(eO n z m).Pairwise (λs t=>s.2≠t.2):=by
  unfold eO;rw[List.pairwise_map];refine(List.pairwise_lt_range (n:=n)).imp_of_mem ?_;intro i j hi hj jL;exact h.1 i j jL (by simpa using hj)
 have hn:∀t∈eO n z m,t.2.nn=true:=by
  intro t ht;simp only[eO,List.mem_map,List.mem_range]at ht;obtain⟨i,hi,rfl⟩:=ht;exact h.2 i hi
 obtain⟨hc,he⟩:=qq8 hd hn hp hs;refine norm_eq hc λq=>?_;rw[he];unfold qz
 by_cases hq:q.nn=true
 ·rw[if_pos hq]
 ·rw[if_neg hq];exact qh λt ht e=>hq (e ▸ hn t ht)
open Classical in
theorem qoh{n cnt:Nat}{z:Nat->Int}{m:Nat->Mo}(hg:Db n m)(X x':Nat->TE)(hX:∀i,i<n->(X i).m=m i)(σ:Nat->Nat)(hσ:(List.range cnt).map σ=(List.range n).filter (λi=>decide (z i≠0)))
 (hp:((List.range cnt).map x').Perm ((List.range cnt).map λj=>X (σ j))) (hs:∀i j,i<j->j<cnt->¬Mo.lt (x' i).m (x' j).m):
 ∃τ:Nat->Nat,(∀j,j<cnt->τ j<n/\x' j=X (τ j))/\norm (eO n z m)=(List.range cnt).map (λj=>(z (τ j),(x' j).m)):=by
 have qkS:∀j,j<cnt->∃i,i<n/\x' j=X i:=by
  intro j hj;have h1:x' j∈(List.range cnt).map x':=List.mem_map.2 ⟨j,List.mem_range.2 hj,rfl⟩;have h2:=(hp.mem_iff).1 h1;obtain⟨q,hq,e⟩:=List.mem_map.1 h2;have h3:σ q∈(List.range cnt).map σ:=List.mem_map.2 ⟨q,hq,rfl⟩;rw[hσ]at h3;exact⟨σ q,by simpa using(List.mem_filter.1 h3).1,e.symm⟩
 let φ:TE->Tm:=λt=>((if h:∃i,i<n/\t=X i then z (Classical.choose h)else 0),t.m)
 have hφ:∀i,i<n->φ (X i)=(z i,m i):=by
  intro i hi;have hex:∃j,j<n/\X i=X j:=⟨i,hi,rfl⟩;have hc:=Classical.choose_spec hex
  have he:Classical.choose hex=i:=by
   refine(hg.inj hi hc.1 ?_).symm;rw[<-hX i hi, <-hX _ hc.1, <-hc.2]
  show((if h:∃j,j<n/\X i=X j then z (Classical.choose h)else 0),(X i).m)=_;rw[dif_pos hex,he,hX i hi]
 obtain⟨τ,hτ⟩:∃τ:Nat->Nat,∀j,j<cnt->τ j<n/\x' j=X (τ j):=⟨λj=>if h:j<cnt then Classical.choose (qkS j h)else 0,λj hj=>by
  simp only[dif_pos hj]
  exact Classical.choose_spec (qkS j hj)⟩
 refine⟨τ,hτ,?_⟩
 ·have hr:((List.range cnt).map λj=>φ (x' j))=(List.range cnt).map (λj=>(z (τ j),(x' j).m)):=by
   apply List.map_congr_left;intro j hj
   have hj':j<cnt:=by simpa using hj
   have hc:=hτ j hj';rw[hc.2,hφ _ hc.1,hX _ hc.1]
  rw[<-hr];refine(qzy hg ?_ ?_).symm
  ·have h1:((List.range cnt).map λj=>φ (x' j)).Perm ((List.range cnt).map λj=>φ (X (σ j))):=by
    have:=hp.map φ;simpa[List.map_map,Function.comp_def]using this
   refine h1.trans (List.Perm.of_eq ?_)
   have h2:((List.range cnt).map λj=>φ (X (σ j)))=((List.range cnt).map σ).map (λi=>φ (X i)):=by simp[List.map_map,Function.comp_def]
   rw[h2,hσ];unfold eO;rw[List.filter_map];have h3:(List.range n).filter ((λt:Tm=>decide (t.1≠0))∘λi=>(z i,m i))=(List.range n).filter (λi=>decide (z i≠0)):=rfl;rw[h3];apply List.map_congr_left;intro i hi;exact hφ i (by simpa using(List.mem_filter.1 hi).1)
  ·rw[List.pairwise_map];refine(List.pairwise_lt_range (n:=cnt)).imp_of_mem ?_;intro i j hi hj jL;exact hs i j jL (by simpa using hj)
theorem qg1{n:Nat}{c0 c1:Nat->Value}{m:Nat->Mo}(h:∀i,i<n->∃b a q p,c0 i=.bool b/\c1 i=.slice a q p):∃X:Nat->TE,∀i,i<n->c0 i=.bool (X i).b/\c1 i=.slice (X i).a (X i).n (X i).p/\(X i).m=m i:=by
 refine⟨λi=>if hi:i<n then⟨Classical.choose (h i hi),Classical.choose (Classical.choose_spec (h i hi)),Classical.choose (Classical.choose_spec (Classical.choose_spec (h i hi))),Classical.choose (Classical.choose_spec (Classical.choose_spec (Classical.choose_spec (h i hi)))),m i⟩else default,λi hi=>?_⟩;have hs:=Classical.choose_spec (Classical.choose_spec (Classical.choose_spec (Classical.choose_spec (h i hi))));simp only[dif_pos hi];exact⟨hs.1,hs.2,trivial⟩
theorem qzG(x y:Nat->TE)(n:Nat)(h:∀i,i<n->x i=y i)(j:Nat)(hj:j<n*6):tx x j=tx y j:=by
 unfold tx lF;simp only[];rw[h (j/6) (by omega)]
theorem qoz(x:Nat->TE)(n:Nat)(t:TE)(j:Nat)(hj:j<(n+1)*6):app (tx x) (n*6) (arr #[.bool t.b,.slice t.a t.n t.p,.int .i64 t.m.a,.int .i64 t.m.b,.int .i64 t.m.c,.int .i64 t.m.d]) j=tx (λi=>if i=n then t else x i) j:=by
 have h:=qot (λi=>.bool (x i).b) (λi=>.slice (x i).a (x i).n (x i).p) (λi=>(x i).m) n t.m (.bool t.b) (.slice t.a t.n t.p) j hj;unfold tx;rw[h];unfold lF si kF
 by_cases hn:j/6=n
 ·simp[hn]
 ·simp[hn]
theorem qm6(t:TE)(j:Nat)(hj:j<6):(arr #[.bool t.b,.slice t.a t.n t.p,.int .i64 t.m.a,.int .i64 t.m.b,.int .i64 t.m.c,.int .i64 t.m.d] j).oneCell'=true:=by
 match j,hj with
 |0,_=>rfl
 |1,_=>rfl
 |2,_=>rfl
 |3,_=>rfl
 |4,_=>rfl
 |5,_=>rfl
def yH(z:Nat->Int)(k cnt:Nat)(σ:Nat->Nat):Prop:=(List.range cnt).map σ=(List.range k).filter (λi=>decide (z i≠0))
theorem yH.len{z:Nat->Int}{k cnt:Nat}{σ:Nat->Nat}(h:yH z k cnt σ):cnt<=k:=by
 have:=congrArg List.length h;simp only[List.length_map,List.length_range]at this;rw[this];exact Nat.le_trans (List.length_filter_le _ _) (by simp)
theorem yH.skip{z:Nat->Int}{k cnt:Nat}{σ:Nat->Nat}(h:yH z k cnt σ)(hz:z k=0):yH z (k+1) cnt σ:=by
 unfold yH at*;rw[h,List.range_succ,List.filter_append];simp[hz]
theorem yH.take{z:Nat->Int}{k cnt:Nat}{σ:Nat->Nat}(h:yH z k cnt σ)(hz:z k≠0):yH z (k+1) (cnt+1) (λi=>if i=cnt then k else σ i):=by
 unfold yH at*;rw[List.range_succ,List.range_succ,List.filter_append, <-h,List.map_append]
 congr 1
 ·apply List.map_congr_left;intro i hi
  have:i≠cnt:=by simp at hi;omega
  simp[this]
 ·simp[hz]
theorem qs6(M:Nat->Prop)(base g n:Nat)(z:Nat->Int)(m:Nat->Mo)(w:World)(hM:Mb M w)(hG:pU M base w g n z m)(gJ:Db n m):
 Calls Tryz.prog 148 #[.pointer (some ⟨g,0,none⟩)] w λe w'=>∃v,e=.returned v/\uV M w.heap.size w' v (norm (eO n z m))/\Ext w w':=by
 obtain⟨i0,hi,hz0,hz1,hz2⟩:=info_parts Tryz.qcA;obtain⟨r,tv,c0,c1,hB,wG,Gb,Cm,Ad,Ae,rH,hO,hC,eu⟩:=hG;obtain⟨X,hX⟩:=qg1 (m:=m) (λi hi=>(hC i hi).form)
 have HC:Hid (∀i,i<n->dJ (GM M g r tv) w (.bool (X i).b) (.slice (X i).a (X i).n (X i).p) (z i)):=λi hi=>by
  have:=hC i hi;rw[(hX i hi).1,(hX i hi).2.1]at this;exact this
 have HXm:Hid (∀i,i<n->(X i).m=m i):=λi hi=>(hX i hi).2.2
 have hcell:∀i,i<n->∃tb cap,tv=.slice (some ⟨tb,0,none⟩) n cap/\tb<w.heap.size/\w.cell? ⟨tb,i*6,none⟩=some (.bool (X i).b)/\w.cell? ⟨tb,i*6+1,none⟩=some (.slice (X i).a (X i).n (X i).p)/\w.cell? ⟨tb,i*6+2,none⟩=some (.int .i64 (X i).m.a)/\w.cell? ⟨tb,i*6+3,none⟩=some (.int .i64 (X i).m.b)/\w.cell? ⟨tb,i*6+4,none⟩=some (.int .i64 (X i).m.c)/\w.cell? ⟨tb,i*6+5,none⟩=some (.int .i64 (X i).m.d):=by
  intro i hi;obtain⟨tb,cap,F,rfl,Ef,sK,Gw,gm,hF⟩:=hO.some (by omega);have Ch:n*6<=cap*6:=Nat.mul_le_mul_right _ Gw;refine⟨tb,cap,rfl,sK.lt,?_,?_,?_,?_,?_,?_⟩
  ·rw[sK.cell (by omega),hF _ (by omega),M4,(hX i hi).1]
  ·rw[sK.cell (by omega),hF _ (by omega),M5,(hX i hi).2.1]
  ·rw[sK.cell (by omega),hF _ (by omega),Ri,(hX i hi).2.2]
  ·rw[sK.cell (by omega),hF _ (by omega),Rj,(hX i hi).2.2]
  ·rw[sK.cell (by omega),hF _ (by omega),Rk,(hX i hi).2.2]
  ·rw[sK.cell (by omega),hF _ (by omega),Rl,(hX i hi).2.2]
 have qpb:=Lib.hid hcell;have hlt:∀b,tv.ownBlock=some b->b<w.heap.size:=λb hb=>(hO.lt b hb).2;have XZ:=Lib.hid hlt;have dZ:=hB.lt;have Qh:=rH.lt;obtain⟨ta,tc,rfl⟩:=hO.form;have g1:=hB.cell (i:=1) (by omega);simp only[arr]at g1;have NV:=Lib.hid gJ;clear hcell hX hC gJ hlt hB hO rH
 go_enter Tryz.func148,Tryz.ntmps148
 go_wp2
 go_loopw [11,3] (λi v wr=>∃(k cnt:Nat)(σ:Nat->Nat),k<=n/\i=.int .i64 k/\yH z k cnt σ/\Own wr w.heap.size 129 6 v cnt (tx λj=>X (σ j))/\Ext w wr) (λi _ _=>n-(intOf i).toNat)
 case atStart=>exact⟨0,0,λ_=>0,Nat.zero_le _,rfl,rfl,Own.nil _ _ _ _ _,Ext.refl _⟩
 case round=>
  obtain⟨k,cnt,σ,hk,rfl,qbu,hOr,bW⟩:=hrel;have qBo:=qbu.len;have RH:=Lib.hid qbu;clear qbu;obtain⟨va,vc,rfl⟩:=hOr.form;have hsz:=bW.size
  by_cases hlt:k<n
  ·obtain⟨tb,cap,hta,Vd,x0,x1,x2,x3,x4,x5⟩:=qpb.out k hlt;simp only[Value.slice.injEq,true_and]at hta;obtain⟨rfl,rfl⟩:=hta;rw[<-bW.cell Vd]at x0 x1 x2 x3 x4 x5
   have qCA:tb<wr.heap.size:=by omega
   have I1:=((HC.out k hlt).ext bW).eH;have HIk:=Lib.hid I1;clear I1;go_wp2_with (fail);have aN:Ext wr (wr.alloc (.cells #[.bool (X k).b,.slice (X k).a (X k).n (X k).p,.int .i64 (X k).m.a,.int .i64 (X k).m.b,.int .i64 (X k).m.c,.int .i64 (X k).m.d] 129)):=(Ext.refl wr).alloc _;have je:=ak.bf wr #[.bool (X k).b,.slice (X k).a (X k).n (X k).p,.int .i64 (X k).m.a,.int .i64 (X k).m.b,.int .i64 (X k).m.c,.int .i64 (X k).m.d] 129 6 rfl;refine(Mw _ _ (z k) _ (HIk.out.ext aN)).mono ?_;rintro e w1 ⟨rfl,af⟩;have ig:=aN.trans af;have IZ:=je.ext af;have y0:=IZ.cell (i:=0) (by omega);have y1:=IZ.cell (i:=1) (by omega);have y2:=IZ.cell (i:=2) (by omega);have y3:=IZ.cell (i:=3) (by omega);have y4:=IZ.cell (i:=4) (by omega);have y5:=IZ.cell (i:=5) (by omega);simp only[arr]at y0 y1 y2 y3 y4 y5;have hO1:=hOr.ext ig;clear x0 x1 x2 x3 x4 x5 HIk je IZ
   by_cases hz:z k=0
   ·have t0:((z k).sign !=0)=false:=by simp[hz]
    have t1:((z k).sign==0)=true:=by simp[hz]
    have HZ:=Lib.hid hz;clear hz;go_wp2
    go_roundw
    case rel=>exact⟨k+1,cnt,σ,by omega,by go_num,RH.out.skip HZ.out,hO1,bW.trans ig⟩
    case measure=>simp[intOf];omega
   ·have t0:((z k).sign !=0)=true:=by simp[hz]
    have t1:((z k).sign==0)=false:=by simp[hz]
    have HZ:=Lib.hid hz;clear hz;have dP:=ig.size;have jO:=ak.bf w1 #[.bool (X k).b,.slice (X k).a (X k).n (X k).p,.int .i64 (X k).m.a,.int .i64 (X k).m.b,.int .i64 (X k).m.c,.int .i64 (X k).m.d] 129 6 rfl;have pz:=hO1.ext ((Ext.refl w1).alloc (.cells #[.bool (X k).b,.slice (X k).a (X k).n (X k).p,.int .i64 (X k).m.a,.int .i64 (X k).m.b,.int .i64 (X k).m.c,.int .i64 (X k).m.d] 129));have Qa:=qm6 (X k);have yQ:=Lib.hid Qa;clear Qa
    go_wp2_with (at_builtin;refine Ru _ rfl (.tmp 19) (.tmp 21) _ rfl w.heap.size 129 i0 _ 6 64 Tryz.underlying71 hi hz0 hz1 hz2 rfl (by omega) (.slice va cnt vc) cnt (tx λj=>X (σ j)) rfl pz w1.heap.size 129 1 (arr #[.bool (X k).b,.slice (X k).a (X k).n (X k).p,.int .i64 (X k).m.a,.int .i64 (X k).m.b,.int .i64 (X k).m.c,.int .i64 (X k).m.d]) rfl jO yQ.out ?s1 ?s2 ?s3 ?_)
    case s1=>unfold maxLen;omega
    case s2=>omega
    case s3=>simp;omega
    intro gg cap2 w2 jP dU hat Ew;have jl:Ext w w2:=((bW.trans ig).alloc _).grown dU (λq hq=>(pz.lt q hq).1)
    have vw:=jP.congr (f':=tx λj=>X (if j=cnt then k else σ j)) (λj hj=>by
     rw[qoz _ _ _ _ hj]
     exact qzG _ _ (cnt+1) (λi _=>by by_cases h:i=cnt<;>simp[h]) j hj)
    clear jP pz jO dU hat;go_wp2
    go_roundw
    case rel=>exact⟨k+1,cnt+1,_,by omega,by go_num,RH.out.take HZ.out,vw,jl⟩
    case measure=>simp[intOf];omega
  ·have:k=n:=by omega
   subst this;clear hlt
   have qiP:∀(v:Value),(∀b,v.ownBlock=some b->w.heap.size<=b)->∀b,MR M v b->GM M g r (.slice ta k tc) b\/w.heap.size<=b:=by
    intro v hv b hb;rcases hb with hb|hb
    ·exact .inl (.inl hb)
    ·exact .inr (hv b hb)
   have qpv:=Lib.hid qiP;clear qiP;rcases hOr with⟨Qr,rfl⟩|⟨gg,cap,F,Qr,qbn,hBg,Gw,gm,hF⟩
   ·simp only[Value.slice.injEq,true_and]at Qr;obtain⟨rfl,rfl⟩:=Qr;obtain⟨τ,hτ,Gx⟩:=qoh NV.out X X HXm.out σ RH.out (by simp) (by intro i j jL hj;omega);have hres:uV M w.heap.size wr (.slice none 0 0) (norm (eO k z m)):=⟨0,λj=>z (τ j),X,.inl ⟨rfl,rfl⟩,λi hi=>by omega,Gx,by omega,λq hq=>by simp[Value.ownBlock]at hq⟩;clear hτ Gx;go_wp2_with (fail);refine(qy4 _ _).mono ?_;rintro e w1 ⟨rfl,rfl⟩;go_wp2;go_ret;exact⟨_,rfl,hres,bW⟩
   ·simp only[Value.slice.injEq,true_and]at Qr;obtain⟨rfl,rfl⟩:=Qr;have aS:=qy3 hBg Gw (by omega) hF;have aO:=Lib.hid aS;clear aS hF;go_wp2_with (fail);refine aO.out.mono ?_;rintro e w1 ⟨rfl,x',F',hB',hF',Qb,Va,PO⟩;have ig:Ext w w1:=bW.grown PO (λq hq=>by cases hq;exact qbn);obtain⟨τ,hτ,Gx⟩:=qoh NV.out X x' HXm.out σ RH.out Qb Va
    have hres:uV M w.heap.size w1 (.slice (some ⟨gg,0,none⟩) cnt vc) (norm (eO k z m)):=by
     refine⟨cnt,λj=>z (τ j),x',.inr ⟨gg,vc,F',rfl,qbn,hB',Gw,gm,hF'⟩,λi hi=>?_,Gx,by omega,λq hq hm=>?_⟩
     ·rw[(hτ i hi).2];exact((HC.out (τ i) (hτ i hi).1).more (qpv.out _ (λb hb=>by simp only[Value.ownBlock,Option.some.injEq]at hb;subst hb;exact qbn))).ext ig
     ·simp only[Value.ownBlock,Option.some.injEq]at hq;subst hq;have:=hM _ hm;omega
    clear hτ Gx Va Qb hF' hB';go_wp2;go_ret;exact⟨_,rfl,hres,ig⟩
theorem qs3(M:Nat->Prop)(w:World):
 Calls Tryz.prog 146 #[] w λe w'=>e=.returned (.pointer (some ⟨w.heap.size+1,0,none⟩))/\pU M w.heap.size w' (w.heap.size+1) 0 (λ_=>0) (λ_=>⟨0,0,0,0⟩)/\Ext w w':=by
 have hmm:= @run_makeMap Tryz.prog
 go_enter Tryz.func146,Tryz.ntmps146
 go_wp2;go_ret;refine⟨rfl,⟨w.heap.size,.slice none 0 0,λ_=>.bool false,λ_=>.bool false,?_,by omega,Nat.le_refl _,by omega,by simp[Value.ownBlock],by simp[Value.ownBlock],?_,Own.nil _ _ _ _ _,λi hi=>by omega,by omega⟩,((Ext.refl w).alloc _).alloc _⟩
 ·have:=ak.bf (w.alloc (.map #[] 0)) #[.map (some w.heap.size),.slice none 0 0] 190 2 rfl;simpa using this
 ·unfold oz;rw[Below.heap_alloc _ _ _ (by simp),heap_alloc_new];rfl
theorem Hl(n:Nat)(z:Nat->Int)(m:Nat->Mo):eO (n+1) z m=eO n z m++[(z n,m n)]:=by
 unfold eO;rw[List.range_succ,List.map_append];rfl
theorem qdw{n:Nat}{z z':Nat->Int}{m m':Nat->Mo}(h:∀i,i<n->z i=z' i/\m i=m' i):eO n z m=eO n z' m':=by
 unfold eO;apply List.map_congr_left;intro i hi;have:=h i (by simpa using hi);rw[this.1,this.2]
theorem qzw(n i:Nat)(z:Nat->Int)(m:Nat->Mo)(c:Int)(hi:i<n)(q:Mo):aB (eO n (λj=>if j=i then z j+c else z j) m) q=aB (eO n z m) q+(if m i=q then c else 0):=by
 induction n with
 |zero=>omega
 |succ n ih=>
  rw[Hl,Hl,gW,gW]
  by_cases hn:i=n
  ·subst hn;rw[qdw (z':=z) (m':=m) (λj hj=>⟨if_neg (by omega),rfl⟩)];simp only[aB,if_true]
   split<;>omega
  ·rw[ih (by omega)];simp only[aB,if_neg (λe=>hn e.symm:¬n=i)];omega
theorem qzx(n i:Nat)(z:Nat->Int)(m:Nat->Mo)(c:Int)(hi:i<n):aC (eO n (λj=>if j=i then z j+c else z j) m)<=aC (eO n z m)+c.natAbs:=by
 induction n with
 |zero=>omega
 |succ n ih=>
  rw[Hl,Hl,kT,kT]
  by_cases hn:i=n
  ·subst hn;rw[qdw (z':=z) (m':=m) (λj hj=>⟨if_neg (by omega),rfl⟩)];simp only[aC,if_true];omega
  ·have:=ih (by omega);simp only[aC,if_neg (λe=>hn e.symm:¬n=i)];omega
theorem qov(n:Nat)(z:Nat->Int)(m:Nat->Mo)(c:Int)(k:Mo):eO (n+1) (λj=>if j=n then c else z j) (kF m n k)=eO n z m++[(c,k)]:=by
 rw[Hl]
 congr 1
 ·exact qdw λi hi=>⟨if_neg (by omega),by unfold kF;rw[if_neg (by omega)]⟩
 ·simp[kF]
theorem qw9(n i:Nat)(z:Nat->Int)(m:Nat->Mo)(hi:i<n):(z i).natAbs<=aC (eO n z m):=
 qxa (t:=(z i,m i)) (List.mem_map.2 ⟨i,List.mem_range.2 hi,rfl⟩)
theorem qs1(M:Nat->Prop)(base g n:Nat)(z:Nat->Int)(m:Nat->Mo)(k:Mo)(d0 d1:Value)(c:Int)(w:World)(hM:Mb M w)(hG:pU M base w g n z m)(gJ:Db n m)(BO:dB (λb=>M b\/sj w g b) w d0 d1 c)
 (hn:n+1<=1099511627776) (hL:az (aC (eO n z m)+c.natAbs)<=1099511627776):
 Calls Tryz.prog 147 #[.pointer (some ⟨g,0,none⟩),kD k,.agg #[d0,d1]] w λe w'=>e=.returned (.tuple #[])/\∃n' z' m',pU M base w' g n' z' m'/\Db n' m'/\n'<=n+1/\
  aC (eO n' z' m')<=aC (eO n z m)+c.natAbs/\(∀q,aB (eO n' z' m') q=aB (eO n z m) q+(if k.nn=true then(if k=q then c else 0)else 0))/\Below base w w'/\Fr g w w':=by
 have hI:dB M w d0 d1 c:=BO.more (λb hb=>.inl (.inl hb))
 have iH:base<=w.heap.size:=by have:=hG.lt;omega
 by_cases jm:k.nn=true
 ·by_cases hex:∃i,i<n/\m i=k
  ·obtain⟨i,hi,hk⟩:=hex;refine(qs2 M base g n z m k d0 d1 c w hM hI hG BO jm i hi hk (λj hj e=>gJ.1 j i hj hi (e.trans hk.symm)) (Nat.le_trans (ji ?_) hL)).mono ?_
   ·have:=qw9 n i z m hi;omega
   ·rintro e w' ⟨rfl,hG',hb⟩;refine⟨rfl,n,_,m,hG',gJ,by omega,qzx n i z m c hi,λq=>?_,hb⟩;rw[qzw n i z m c hi q,hk,if_pos jm]
  ·refine(qs5 M base g n z m k d0 d1 c w hM hI hG BO jm (λj hj e=>hex ⟨j,hj,e⟩) hn).mono ?_;rintro e w' ⟨rfl,hG',hb⟩;refine⟨rfl,n+1,_,_,hG',⟨λi j jL hj=>?_,λi hi=>?_⟩,Nat.le_refl _,?_,λq=>?_,hb⟩
   ·unfold kF
    by_cases PU:j=n
    ·rw[if_neg (by omega),if_pos PU];exactλe=>hex ⟨i,by omega,e⟩
    ·rw[if_neg (by omega),if_neg PU];exact gJ.1 i j jL (by omega)
   ·unfold kF
    by_cases lQ:i=n
    ·rw[if_pos lQ];exact jm
    ·rw[if_neg lQ];exact gJ.2 i (by omega)
   ·rw[qov,kT];simp[aC]
   ·rw[qov,gW,if_pos jm];simp[aB]
 ·refine(qs4 M base g k d0 d1 c w hI (by simpa using jm)).mono ?_;rintro e w' ⟨rfl,he⟩;exact⟨rfl,n,z,m,hG.ext he,gJ,by omega,by omega,λq=>by rw[if_neg jm];omega,OT he iH,Fr.jC hG.lt.2 he⟩
def qgG(M:Nat->Prop)(w:World)(v:Value)(n:Nat)(c0 c1:Nat->Value)(m:Nat->Mo):Prop:=
 n<=1099511627776/\(((∃a cap,v=.slice a 0 cap/\cap<=maxLen)/\n=0)\/∃b off cap,v=.slice (some ⟨b,off,none⟩) n cap/\n<=cap/\cap<=maxLen/\(b<w.heap.size/\¬M b)/\∀i,i<n->w.cell? ⟨b,off+i*6,none⟩=some (c0 i)/\w.cell? ⟨b,off+i*6+1,none⟩=some (c1 i)/\
  w.cell? ⟨b,off+i*6+2,none⟩=some (.int .i64 (m i).a)/\w.cell? ⟨b,off+i*6+3,none⟩=some (.int .i64 (m i).b)/\w.cell? ⟨b,off+i*6+4,none⟩=some (.int .i64 (m i).c)/\w.cell? ⟨b,off+i*6+5,none⟩=some (.int .i64 (m i).d))
def uW(M:Nat->Prop)(w:World)(v:Value)(l:List Tm):Prop:=
 ∃(n:Nat)(z:Nat->Int)(m:Nat->Mo)(c0 c1:Nat->Value),qgG M w v n c0 c1 m/\l=eO n z m/\∀i,i<n->dB M w (c0 i) (c1 i) (z i)
def Oq(M:Nat->Prop)(w:World)(v:Value)(l:List Tm):Prop:=
 ∃(n:Nat)(z:Nat->Int)(m:Nat->Mo)(c0 c1:Nat->Value),qgG (λ_=>False) w v n c0 c1 m/\l=eO n z m/\∀i,i<n->dB M w (c0 i) (c1 i) (z i)
theorem uW.w{M:Nat->Prop}{w:World}{v:Value}{l:List Tm}(h:uW M w v l):Oq M w v l:=by
 obtain⟨n,z,m,c0,c1,⟨eu,hrow⟩,h1,h2⟩:=h;refine⟨n,z,m,c0,c1,⟨eu,?_⟩,h1,h2⟩;rcases hrow with hrow|⟨b,off,cap,hv,hn,hc,hb,hcell⟩
 ·exact .inl hrow
 ·exact .inr ⟨b,off,cap,hv,hn,hc,⟨hb.1,λh=>h⟩,hcell⟩
theorem qzz(n k:Nat)(z:Nat->Int)(m:Nat->Mo)(h:k<=n):∃r,eO n z m=eO k z m++r:=by
 obtain⟨j,rfl⟩:∃j,n=k+j:=⟨n-k,by omega⟩;unfold eO;rw[List.range_add,List.map_append];exact⟨_,rfl⟩
theorem uV.base{M:Nat->Prop}{B B':Nat}{w:World}{v:Value}{l:List Tm}(h:uV M B w v l)(hb:B'<=B):uV M B' w v l:=by
 obtain⟨n,z,x,h1,h2,h3,h4,h5⟩:=h;refine⟨n,z,x,?_,h2,h3,h4,h5⟩;rcases h1 with h1|⟨g,cap,F,hv,hg,r⟩
 ·exact .inl h1
 ·exact .inr ⟨g,cap,F,hv,Nat.le_trans hb hg,r⟩
theorem qy2(M:Nat->Prop)(v:Value)(l:List Tm)(w:World)(hM:Mb M w)(hP:Oq M w v l)(hL:az (aC l)<=1099511627776):
 Calls Tryz.prog 100 #[v] w λe w'=>∃u,e=.returned u/\uV M w.heap.size w' u (norm l)/\Ext w w':=by
 obtain⟨n,z,m,c0,c1,⟨eu,hrow⟩,rfl,hI⟩:=hP;have HI:=Lib.hid hI;have qqc:=Lib.hid hrow
 obtain⟨va,vc,rfl⟩:∃a cap,v=.slice a n cap:=by
  rcases hrow with⟨⟨_,_,rfl,_⟩,rfl⟩|⟨b,off,cap,rfl,_⟩
  ·exact⟨_,_,rfl⟩
  ·exact⟨_,_,rfl⟩
 have HL:=Lib.hid hL;clear hI hrow hL
 go_enter Tryz.func100,Tryz.ntmps100
 go_wp2_with (fail);refine(qs3 M w).mono ?_;rintro e w1 ⟨rfl,hG,af⟩;go_wp2
 go_loopw [9] (λi wr=>∃(k n':Nat)(z':Nat->Int)(m':Nat->Mo),k<=n/\i=.int .i64 k/\pU M w.heap.size wr (w.heap.size+1) n' z' m'/\Db n' m'/\n'<=k/\Hid (aC (eO n' z' m')<=aC (eO k z m))/\Hid (∀q,aB (eO n' z' m') q=qz (eO k z m) q)/\Ext w wr) (λi _=>n-(intOf i).toNat)
 case atStart=>exact⟨0,0,_,_,Nat.zero_le _,rfl,hG,⟨λi j _ h=>by omega,λi h=>by omega⟩,Nat.le_refl _,Nat.le_refl _,λq=>by simp[eO,aB,qz],af⟩
 case round=>
  clear hG af;obtain⟨k,n',z',m',hk,rfl,hG,gJ,zW,HN,HQ,bW⟩:=hrel;have NV:=Lib.hid gJ;clear gJ;have hsz:=bW.size
  by_cases hlt:k<n
  ·rcases qqc.out with⟨_,h0⟩|⟨b,off,cap,hv,BU,hm,hb,Py⟩
   ·omega
   simp only[Value.slice.injEq,true_and]at hv;obtain⟨rfl,rfl⟩:=hv;obtain⟨x0,x1,x2,x3,x4,x5⟩:=Py k hlt;clear Py;have I1:=HI.out k hlt;obtain⟨b1,a1,n1,p1,e0,e1⟩:=I1.form;rw[e0,e1]at I1;rw[e0]at x0;rw[e1]at x1;rw[<-bW.cell hb.1]at x0 x1 x2 x3 x4 x5
   have iH:b<wr.heap.size:=by omega
   have BO:dB (λb=>M b\/w.heap.size<=b) wr (.bool b1) (.slice a1 n1 p1) (z k):=(I1.more (λb hb=>hb)).ext bW;have HIG:=Lib.hid BO
   have hLk:az (aC (eO n' z' m')+(z k).natAbs)<=1099511627776:=by
    refine Nat.le_trans (ji ?_) HL.out;obtain⟨r,hr⟩:=qzz n (k+1) z m (by omega);rw[hr,kT,Hl,kT];have:=HN.out;simp[aC];omega
   have qln:∀q,qz (eO (k+1) z m) q=qz (eO k z m) q+(if(m k).nn=true then(if m k=q then z k else 0)else 0):=by
    intro q;unfold qz;rw[Hl,gW]
    by_cases hq:q.nn=true
    ·rw[if_pos hq,if_pos hq];simp only[aB]
     by_cases U4:m k=q
     ·rw[if_pos U4,if_pos (by rw[U4];exact hq)];omega
     ·rw[if_neg U4];split<;>simp[U4]
    ·rw[if_neg hq,if_neg hq]
     by_cases hmk:(m k).nn=true
     ·rw[if_pos hmk,if_neg (λ(e:m k=q)=>hq (e ▸ hmk))];omega
     ·rw[if_neg hmk];omega
   have qqm:=Lib.hid qln;have HLK:=Lib.hid hLk;clear qln hLk BO I1 e0 e1;go_wp2_with (fail);refine(qs1 M w.heap.size (w.heap.size+1) n' z' m' (m k) _ _ (z k) _ (hM.size (by simp;omega)) (hG.ext ((Ext.refl wr).alloc _)) NV.out ((HIG.out.ext ((Ext.refl wr).alloc _)).more (λb hb=>.inl (hb.imp id (λh=>(hG.xQ (h.ext ((Ext.refl wr).alloc _) hG.lt.2)).1)))) (by omega) HLK.out).mono ?_;rintro e w2 ⟨rfl,n2,z2,m2,BL,qk6,lu,hN2,D9,gX,_⟩;have jl:Ext w w2:=Below.trans (Ext.below (bW.alloc _)) gX;have qp1:=Lib.hid qk6
   have xy:Hid (aC (eO n2 z2 m2)<=aC (eO (k+1) z m)):=by
    show _<=_;rw[Hl,kT];have:=HN.out;simp[aC];omega
   have oW:Hid (∀q,aB (eO n2 z2 m2) q=qz (eO (k+1) z m) q):=λq=>by rw[D9 q,HQ.out q,qqm.out q]
   clear qk6 hN2 D9 gX x0 x1 x2 x3 x4 x5;go_wp2
   go_roundw
   case rel=>exact⟨k+1,n2,z2,m2,by omega,by go_num,BL,qp1.out,by omega,xy,oW,jl⟩
   case measure=>simp[intOf];omega
  ·have:k=n:=by omega
   subst this
   have Gx:norm (eO n' z' m')=norm (eO k z m):=by
    refine norm_eq (qZ _) (λq=>?_);rw[MJ];unfold qz
    by_cases hq:q.nn=true
    ·rw[if_pos hq,HQ.out q];unfold qz;rw[if_pos hq]
    ·rw[if_neg hq,if_neg hq]
   have qpU:=Lib.hid Gx;clear Gx;go_wp2_with (fail);refine(qs6 M w.heap.size (w.heap.size+1) n' z' m' _ (hM.size hsz) hG NV.out).mono ?_;rintro e w2 ⟨u,rfl,hu,aA⟩;rw[qpU.out]at hu;go_wp2;go_ret;refine⟨u,rfl,?_,bW.trans aA⟩;exact hu.base hsz
theorem qy1(M:Nat->Prop)(v:Value)(l:List Tm)(w:World)(hM:Mb M w)(hP:uW M w v l)(hL:az (aC l)<=1099511627776):
 Calls Tryz.prog 100 #[v] w λe w'=>∃u,e=.returned u/\uV M w.heap.size w' u (norm l)/\Ext w w':=qy2 M v l w hM hP.w hL
def mD(M:Nat->Prop)(w:World)(v:Value)(n:Nat)(z:Nat->Int)(x:Nat->TE):Prop:=
 n<=1099511627776/\(((∃a cap,v=.slice a 0 cap/\cap<=maxLen)/\n=0)\/∃b off cap,v=.slice (some ⟨b,off,none⟩) n cap/\n<=cap/\cap<=maxLen/\(b<w.heap.size/\¬M b)/\∀i,i<n->w.cell? ⟨b,off+i*6,none⟩=some (.bool (x i).b)/\w.cell? ⟨b,off+i*6+1,none⟩=some (.slice (x i).a (x i).n (x i).p)/\
  w.cell? ⟨b,off+i*6+2,none⟩=some (.int .i64 (x i).m.a)/\w.cell? ⟨b,off+i*6+3,none⟩=some (.int .i64 (x i).m.b)/\w.cell? ⟨b,off+i*6+4,none⟩=some (.int .i64 (x i).m.c)/\w.cell? ⟨b,off+i*6+5,none⟩=some (.int .i64 (x i).m.d))/\
 ∀i,i<n->dB M w (.bool (x i).b) (.slice (x i).a (x i).n (x i).p) (z i)
def dQ(n:Nat)(z:Nat->Int)(x:Nat->TE):List Tm:=(List.range n).map λi=>(z i,(x i).m)
theorem uW.x{M:Nat->Prop}{w:World}{v:Value}{l:List Tm}(h:uW M w v l):∃n z x,mD M w v n z x/\l=dQ n z x:=by
 obtain⟨n,z,m,c0,c1,⟨eu,hrow⟩,rfl,hI⟩:=h;obtain⟨X,hX⟩:=qg1 (m:=m) (λi hi=>(hI i hi).form);refine⟨n,z,X,⟨eu,?_,λi hi=>?_⟩,?_⟩
 ·rcases hrow with h|⟨b,off,cap,hv,h1,h2,h3,h4⟩
  ·exact .inl h
  ·refine .inr ⟨b,off,cap,hv,h1,h2,h3,λi hi=>?_⟩;obtain⟨e0,e1,e2⟩:=hX i hi;have:=h4 i hi;rw[e0,e1, <-e2]at this;exact this
 ·have:=hI i hi;rw[(hX i hi).1,(hX i hi).2.1]at this;exact this
 ·unfold dQ eO;apply List.map_congr_left;intro i hi;rw[(hX i (by simpa using hi)).2.2]
theorem mD.v{M:Nat->Prop}{w:World}{v:Value}{n:Nat}{z:Nat->Int}{x:Nat->TE}(h:mD M w v n z x):uW M w v (dQ n z x):=by
 obtain⟨hn,hrow,hI⟩:=h;exact⟨n,z,λi=>(x i).m,λi=>.bool (x i).b,λi=>.slice (x i).a (x i).n (x i).p,⟨hn,hrow⟩,rfl,hI⟩
theorem mD.kp{M:Nat->Prop}{w w':World}{v:Value}{n:Nat}{z:Nat->Int}{x:Nat->TE}(h:mD M w v n z x)(he:Kp M w w'):mD M w' v n z x:=by
 obtain⟨hn,hrow,hI⟩:=h;refine⟨hn,?_,λi hi=>(hI i hi).kp he⟩;rcases hrow with h|⟨b,off,cap,hv,h1,h2,h3,h4⟩
 ·exact .inl h
 ·refine .inr ⟨b,off,cap,hv,h1,h2,⟨Nat.lt_of_lt_of_le h3.1 he.1,h3.2⟩,λi hi=>?_⟩;rw[he.cell h3.1 h3.2,he.cell h3.1 h3.2,he.cell h3.1 h3.2,he.cell h3.1 h3.2,he.cell h3.1 h3.2,he.cell h3.1 h3.2];exact h4 i hi
theorem mD.ext{M:Nat->Prop}{w w':World}{v:Value}{n:Nat}{z:Nat->Int}{x:Nat->TE}(h:mD M w v n z x)(he:Ext w w'):mD M w' v n z x:=h.kp (Kp.jC he)
theorem mD.more{M M':Nat->Prop}{w:World}{v:Value}{n:Nat}{z:Nat->Int}{x:Nat->TE}(h:mD M w v n z x)(hm:∀g,M' g->M g\/w.heap.size<=g):mD M' w v n z x:=by
 obtain⟨hn,hrow,hI⟩:=h;refine⟨hn,?_,λi hi=>(hI i hi).more hm⟩;rcases hrow with h|⟨b,off,cap,hv,h1,h2,h3,h4⟩
 ·exact .inl h
 ·exact .inr ⟨b,off,cap,hv,h1,h2,⟨h3.1,λk=>(hm b k).elim h3.2 (by omega)⟩,h4⟩
theorem uW.kp{M:Nat->Prop}{w w':World}{v:Value}{l:List Tm}(h:uW M w v l)(he:Kp M w w'):uW M w' v l:=by
 obtain⟨n,z,x,hx,rfl⟩:=h.x;exact(hx.kp he).v
theorem uW.ext{M:Nat->Prop}{w w':World}{v:Value}{l:List Tm}(h:uW M w v l)(he:Ext w w'):uW M w' v l:=h.kp (Kp.jC he)
theorem uV.x{M:Nat->Prop}{B:Nat}{w:World}{v:Value}{l:List Tm}(h:uV M B w v l):∃n z x,mD M w v n z x/\l=dQ n z x/\∀i,i<n->dJ M w (.bool (x i).b) (.slice (x i).a (x i).n (x i).p) (z i):=by
 obtain⟨n,z,x,hO,hI,rfl,hn,hM⟩:=h;refine⟨n,z,x,⟨hn,?_,λi hi=>((hI i hi).more (λb hb=>.inl (.inl hb))).eH⟩,rfl,λi hi=>(hI i hi).more (λb hb=>.inl (.inl hb))⟩;rcases hO with h|⟨g,cap,F,rfl,hb,hB,h1,h2,hF⟩
 ·exact .inl ⟨⟨none,0,h.1,Nat.zero_le _⟩,h.2⟩
 ·have Ch:n*6<=cap*6:=Nat.mul_le_mul_right _ h1;refine .inr ⟨g,0,cap,rfl,h1,h2,⟨hB.lt,hM g rfl⟩,λi hi=>?_⟩;simp only[Nat.zero_add];rw[hB.cell (by omega),hB.cell (by omega),hB.cell (by omega),hB.cell (by omega),hB.cell (by omega),hB.cell (by omega),hF _ (by omega),hF _ (by omega),hF _ (by omega),hF _ (by omega),hF _ (by omega),hF _ (by omega)];unfold tx;rw[M4,M5,Ri,Rj,Rk,Rl];exact⟨rfl,rfl,rfl,rfl,rfl,rfl⟩
theorem mD.form{M:Nat->Prop}{w:World}{v:Value}{n:Nat}{z:Nat->Int}{x:Nat->TE}(h:mD M w v n z x):∃a cap,v=.slice a n cap:=by
 obtain⟨_,h|⟨b,off,cap,rfl,_⟩,_⟩:=h
 ·obtain⟨⟨_,_,rfl,_⟩,rfl⟩:=h;exact⟨_,_,rfl⟩
 ·exact⟨_,_,rfl⟩
theorem mD.at{M:Nat->Prop}{w:World}{a:Option Addr}{cap n:Nat}{z:Nat->Int}{x:Nat->TE}(h:mD M w (.slice a n cap) n z x)(k:Nat)(hk:k<n):∃b off,a=some ⟨b,off,none⟩/\n<=cap/\cap<=maxLen/\b<w.heap.size/\w.cell? ⟨b,off+k*6,none⟩=some (.bool (x k).b)/\w.cell? ⟨b,off+k*6+1,none⟩=some (.slice (x k).a (x k).n (x k).p)/\
 w.cell? ⟨b,off+k*6+2,none⟩=some (.int .i64 (x k).m.a)/\w.cell? ⟨b,off+k*6+3,none⟩=some (.int .i64 (x k).m.b)/\w.cell? ⟨b,off+k*6+4,none⟩=some (.int .i64 (x k).m.c)/\w.cell? ⟨b,off+k*6+5,none⟩=some (.int .i64 (x k).m.d):=by
 obtain⟨_,h|⟨b,off,cap',hv,h1,h2,h3,h4⟩,_⟩:=h
 ·omega
 ·simp only[Value.slice.injEq,true_and]at hv;obtain⟨rfl,rfl⟩:=hv;exact⟨b,off,rfl,h1,h2,h3.1,h4 k hk⟩
theorem qdH(n:Nat)(z:Nat->Int)(x:Nat->TE):dQ (n+1) z x=dQ n z x++[(z n,(x n).m)]:=by
 unfold dQ;rw[List.range_succ,List.map_append];rfl
theorem Rx(n:Nat)(z:Nat->Int)(x:Nat->TE):(dQ n z x).length=n:=by simp[dQ]
end Go.Proofs.YtmcfpnmoklnhoaaGreat
