/- The sort (slices.pdqsortCmpFunc at sparse.Term) and bits.Len, laid out of the shelf; written by the kit's lay-plain.mjs for another seat, then made a template. sparse: the sort of a row of terms. sparse: slices.SortFunc at terms; gather.poly; Normal. sparse: gather.poly. sparse: the walk of gather.poly; newGather; gather.add as one contract; Normal. sparse: Normal. sparse: Compare, Same, IsZero. -/
import Derived.Shelf.SlSortCmp.WholeK
import Derived.Shelf.Small.Bits
import Derived.Ground.SlsfProg
import Derived.Ground.NamesProg
import Derived.Test.YtmcfpnmoklnhoaaGreatProg
import Derived.Test.YtmcfpnmoklnhoaaGreatMb
set_option linter.unusedVariables false
set_option maxRecDepth 100000
set_option maxHeartbeats 400000000
set_option linter.unusedSimpArgs false

namespace Go.Proofs
open Go.Shelf
def Tryz.pdqTerm_ren:Go.Shelf.Ren:=⟨fun | 14=>197 | 20=>207 | 21=>208 | 22=>209 | 23=>210 | 24=>211 | 25=>212 | 26=>213 | 27=>214 | 46=>216 | 47=>199 | 48=>200 | 49=>217 | 50=>218 | 15=>154 | 57=>219 | 28=>179 | 29=>180 | n=>n,fun | 24=>129 | 22=>70 | 3=>3 | 25=>175 | 4=>4 | 0=>0 | 46=>196 | 45=>195 | 50=>191 | 66=>214 | 39=>156 | 55=>108 | 70=>218 | 76=>226 | 77=>227 | 53=>155 | 5=>5 | 9=>9 | n=>n,fun | n=>n⟩
theorem Tryz.pdqTerm:Go.Proofs.SlLaysF0.n14 Tryz.prog Tryz.pdqTerm_ren:={
 mixed:=by kernel_rfl
 f14:=⟨Tryz.f197.name,by decide,Tryz.func197.trans (congrArg some (by kernel_rfl))⟩
 f15:=Tryz.func154.trans (congrArg some (by kernel_rfl))
 f20:=⟨Tryz.f207.name,by decide,Tryz.func207.trans (congrArg some (by kernel_rfl))⟩
 f21:=⟨Tryz.f208.name,by decide,Tryz.func208.trans (congrArg some (by kernel_rfl))⟩
 f22:=⟨Tryz.f209.name,by decide,Tryz.func209.trans (congrArg some (by kernel_rfl))⟩
 f23:=⟨Tryz.f210.name,by decide,Tryz.func210.trans (congrArg some (by kernel_rfl))⟩
 f24:=⟨Tryz.f211.name,by decide,Tryz.func211.trans (congrArg some (by kernel_rfl))⟩
 f25:=⟨Tryz.f212.name,by decide,Tryz.func212.trans (congrArg some (by kernel_rfl))⟩
 f26:=⟨Tryz.f213.name,by decide,Tryz.func213.trans (congrArg some (by kernel_rfl))⟩
 f27:=⟨Tryz.f214.name,by decide,Tryz.func214.trans (congrArg some (by kernel_rfl))⟩
 f28:=Tryz.func179.trans (congrArg some (by kernel_rfl))
 f29:=Tryz.func180.trans (congrArg some (by kernel_rfl))
 f46:=⟨Tryz.f216.name,by decide,Tryz.func216.trans (congrArg some (by kernel_rfl))⟩
 f47:=Tryz.func199.trans (congrArg some (by kernel_rfl))
 f48:=Tryz.func200.trans (congrArg some (by kernel_rfl))
 f49:=⟨Tryz.f217.name,by decide,Tryz.func217.trans (congrArg some (by kernel_rfl))⟩
 f50:=⟨Tryz.f218.name,by decide,Tryz.func218.trans (congrArg some (by kernel_rfl))⟩
 f57:=⟨Tryz.f219.name,by decide,Tryz.func219.trans (congrArg some (by kernel_rfl))⟩
 t0:=Tryz.underlying0
 a0:=Tryz.isAgg0
 z0:=Tryz.sizeOf0
 v0:=Tryz.zeroValue0
 t3:=Tryz.underlying3
 a3:=Tryz.isAgg3
 z3:=Tryz.sizeOf3
 v3:=Tryz.zeroValue3
 t4:=Tryz.underlying4
 a4:=Tryz.isAgg4
 z4:=Tryz.sizeOf4
 v4:=Tryz.zeroValue4
 t5:=Tryz.underlying5
 a5:=Tryz.isAgg5
 z5:=Tryz.sizeOf5
 v5:=Tryz.zeroValue5
 t9:=Tryz.underlying9
 a9:=Tryz.isAgg9
 z9:=Tryz.sizeOf9
 v9:=Tryz.zeroValue9
 t22:=Tryz.underlying70
 a22:=Tryz.isAgg70
 z22:=Tryz.sizeOf70
 v22:=Tryz.zeroValue70
 t25:=Tryz.underlying175
 a25:=Tryz.isAgg175
 z25:=Tryz.sizeOf175
 v25:=Tryz.zeroValue175
 t39:=Tryz.underlying156
 a39:=Tryz.isAgg156
 z39:=Tryz.sizeOf156
 v39:=Tryz.zeroValue156
 t45:=Tryz.underlying195
 a45:=Tryz.isAgg195
 z45:=Tryz.sizeOf195
 v45:=Tryz.zeroValue195
 t46:=Tryz.underlying196
 a46:=Tryz.isAgg196
 z46:=Tryz.sizeOf196
 v46:=Tryz.zeroValue196
 t50:=Tryz.underlying191
 a50:=Tryz.isAgg191
 z50:=Tryz.sizeOf191
 v50:=Tryz.zeroValue191
 t53:=Tryz.underlying155
 a53:=Tryz.isAgg155
 z53:=Tryz.sizeOf155
 v53:=Tryz.zeroValue155
 t55:=Tryz.underlying108
 a55:=Tryz.isAgg108
 z55:=Tryz.sizeOf108
 v55:=Tryz.zeroValue108
 t66:=Tryz.underlying214
 a66:=Tryz.isAgg214
 z66:=Tryz.sizeOf214
 v66:=Tryz.zeroValue214
 t70:=Tryz.underlying218
 a70:=Tryz.isAgg218
 z70:=Tryz.sizeOf218
 v70:=Tryz.zeroValue218
 t76:=Tryz.underlying226
 a76:=Tryz.isAgg226
 z76:=Tryz.sizeOf226
 v76:=Tryz.zeroValue226
 t77:=Tryz.underlying227
 a77:=Tryz.isAgg227
 z77:=Tryz.sizeOf227
 v77:=Tryz.zeroValue227 }
def Tryz.bitsLen_ren:Go.Shelf.Ren:=⟨fun | 125=>154 | 128=>179 | 129=>180 | n=>n,fun | 46=>156 | 3=>3 | 51=>155 | 53=>108 | 4=>4 | 5=>5 | 9=>9 | n=>n,fun | n=>n⟩
theorem Tryz.bitsLen:Go.Proofs.Lays.n125 Tryz.prog Tryz.bitsLen_ren:={
 mixed:=by kernel_rfl
 f125:=Tryz.func154.trans (congrArg some (by kernel_rfl))
 f128:=Tryz.func179.trans (congrArg some (by kernel_rfl))
 f129:=Tryz.func180.trans (congrArg some (by kernel_rfl))
 t3:=Tryz.underlying3
 a3:=Tryz.isAgg3
 z3:=Tryz.sizeOf3
 v3:=Tryz.zeroValue3
 t4:=Tryz.underlying4
 a4:=Tryz.isAgg4
 z4:=Tryz.sizeOf4
 v4:=Tryz.zeroValue4
 t5:=Tryz.underlying5
 a5:=Tryz.isAgg5
 z5:=Tryz.sizeOf5
 v5:=Tryz.zeroValue5
 t9:=Tryz.underlying9
 a9:=Tryz.isAgg9
 z9:=Tryz.sizeOf9
 v9:=Tryz.zeroValue9
 t46:=Tryz.underlying156
 a46:=Tryz.isAgg156
 z46:=Tryz.sizeOf156
 v46:=Tryz.zeroValue156
 t51:=Tryz.underlying155
 a51:=Tryz.isAgg155
 z51:=Tryz.sizeOf155
 v51:=Tryz.zeroValue155
 t53:=Tryz.underlying108
 a53:=Tryz.isAgg108
 z53:=Tryz.sizeOf108
 v53:=Tryz.zeroValue108 }
end Go.Proofs

namespace Go.Proofs.YtmcfpnmoklnhoaaGreat
open Go.RowKit

structure TE where
 b:Bool
 a:Option Addr
 n:Nat
 p:Nat
 m:Mo
instance:Inhabited TE:=⟨⟨false,none,0,0,⟨0,0,0,0⟩⟩⟩
def teL (x:TE):List Value:=[.bool x.b,.slice x.a x.n x.p,.int .i64 x.m.a,.int .i64 x.m.b,.int .i64 x.m.c,.int .i64 x.m.d]
def tx (x:Nat->TE):Nat->Value:=qbT (fun i=>.bool (x i).b) (fun i=>.slice (x i).a (x i).n (x i).p) (fun i=>(x i).m)
def cfT (x y:TE):Int:=qcO y.m x.m
theorem qp4 (x y:TE) (w:World):Calls Tryz.prog 169 #[.agg #[.bool x.b,.slice x.a x.n x.p,.int .i64 x.m.a,.int .i64 x.m.b,.int .i64 x.m.c,.int .i64 x.m.d],.agg #[.bool y.b,.slice y.a y.n y.p,.int .i64 y.m.a,.int .i64 y.m.b,.int .i64 y.m.c,.int .i64 y.m.d]] w fun e w'=>e = .returned (.int .i64 (cfT x y))/\Gr w w':=by
 have hE:Hid (Gr w ((w.alloc (.cells #[.bool x.b,.slice x.a x.n x.p,.int .i64 x.m.a,.int .i64 x.m.b,.int .i64 x.m.c,.int .i64 x.m.d] 129)).alloc (.cells #[.bool y.b,.slice y.a y.n y.p,.int .i64 y.m.a,.int .i64 y.m.b,.int .i64 y.m.c,.int .i64 y.m.d] 129))):=((Gr.refl w).alloc _).alloc _
 go_enter Tryz.func169,Tryz.ntmps169
 go_wp2_with (fail);refine (qey y.m x.m _).mono ?_;rintro e w1 ⟨rfl,he1⟩;go_wp2;go_ret;exact ⟨rfl,hE.out.trans he1⟩
theorem qtF:Go.Sort.SWO (Go.Proofs.ltOf cfT) where
 irrefl x:=by
  unfold Go.Proofs.ltOf cfT;simp only [decide_eq_false_iff_not,qdZ];exact Mo.lt_irrefl _
 trans x y z h1 h2:=by
  unfold Go.Proofs.ltOf cfT at *;simp only [decide_eq_true_eq,qdZ] at *;exact Mo.lt_trans h2 h1
 ntrans x y z h1 h2:=by
  unfold Go.Proofs.ltOf cfT at *;simp only [decide_eq_false_iff_not,qdZ] at *;intro h3;rcases Mo.lt_tri y.m x.m with k | k | k
  ·exact h1 k
  ·rw [k] at h2;exact h2 h3
  ·exact h2 (Mo.lt_trans h3 k)
theorem qoQ (blk off size:Nat) (w:World):Go.Proofs.CmpLays Tryz.prog 169 #[] teL 6 cfT blk off size w:=
 fun _ _ _ _ x y=>(qp4 x y _).mono fun _ _ ⟨he,q,os,hg⟩=>⟨he,q,os,hg⟩
theorem qtV (w:World):(isAgg 129).run Tryz.prog w = .ok true w:=by kernel_rfl
theorem qtS (w:World):(Go.sizeOf 129).run Tryz.prog w = .ok 6 w:=by kernel_rfl
theorem qp1 (x:TE) : ∀ v ∈ teL x,v.oneCell'=true:=by
 intro v hv;simp only [teL,List.mem_cons,List.not_mem_nil,or_false] at hv;rcases hv with rfl | rfl | rfl | rfl | rfl | rfl <;> rfl
def qd3 (x:Nat->TE) (n:Nat):Array TE:=((List.range n).map x).toArray
theorem qc7 (x:Nat->TE) (n:Nat):(qd3 x n).size=n:=by simp [qd3]
theorem qlt (x:Nat->TE) (n i:Nat) (h:i<n):(qd3 x n)[i]! = x i:=by
 simp [qd3,h]
theorem qpY (x:TE) (k:Nat) (hk:k<6) (c:Nat->TE) (i:Nat) (h:c i=x):(teL x)[k]! = tx c (i*6+k):=by
 subst h;unfold tx
 match k,hk with
 | 0,_=>rw [Nat.add_zero,qfL];rfl
 | 1,_=>rw [qfK];rfl
 | 2,_=>rw [qhr];rfl
 | 3,_=>rw [qhq];rfl
 | 4,_=>rw [qhp];rfl
 | 5,_=>rw [qho];rfl
theorem qmG (d:Array TE) (x:Nat->TE) (n j:Nat) (hd:d.size=n) (hx : ∀ i,i<n->d[i]! = x i) (hj:j<n*6):(Go.Sort.flatK teL 6 d)[j]! = tx x j:=by
 rw [Go.Sort.get_flatK _ _ _ _ (by rw [hd];exact hj),qpY _ (j % 6) (Nat.mod_lt _ (by decide)) x (j / 6) (hx _ (by omega)).symm]
 congr 1
 omega
theorem qov {w:World} {g cap n:Nat} {t:TypeId} {F:Nat->Value} {x:Nat->TE} (hB:Blk w g t (cap*6) F) (hn:n<=cap) (hF : ∀ j,j<n*6->F j=tx x j):Go.Sort.HoldsK teL 6 w g 0 (qd3 x n):=by
 intro j hj;rw [Go.Sort.size_flatK,qc7] at hj;have hnk:n*6<=cap*6:=Nat.mul_le_mul_right _ hn;rw [Nat.zero_add,hB.cell (by omega),hF j hj,qmG (qd3 x n) x n j (qc7 _ _) (fun i hi=>qlt x n i hi) hj];exact ⟨rfl,hB.frozen j⟩
theorem qk1 {w : World} {g cap n q : Nat} {t : TypeId} {F : Nat -> Value} (hB : Blk w g t (cap * 6) F) (d : Array TE) (os : Array Obj) (hd : d.size = n) (hn : n <= cap) :
  Blk (Go.Proofs.sortWorldK teL 6 w g 0 q d os) g t (cap*6) (fun j=>if j<n*6 then tx (fun i=>d[i]!) j else F j)/\w.grownBy (Go.Proofs.sortWorldK teL 6 w g 0 q d os) (some g):=by
 obtain ⟨cur,hg,hs,hc⟩:=hB;have hlt:g<w.heap.size:=(Array.getElem?_eq_some_iff.1 hg).1
 have hheap : ∀ k,k<w.heap.size->(Go.Proofs.sortWorldK teL 6 w g 0 q d os).heap[k]? = (w.heap.modify g (Go.Sort.onCells (Go.Sort.putCells id 0 (Go.Sort.flatK teL 6 d))))[k]?:=by
  intro k hk;unfold Go.Proofs.sortWorldK;rw [Go.Sort.heap_grow_old _ _ (by simp [Go.Sort.putRowK,Go.Sort.putRow,Go.Sort.mapBlock,Go.Sort.ahead];exact hk)];rfl
 constructor
 ·refine ⟨Go.Sort.putCells id 0 (Go.Sort.flatK teL 6 d) cur,?_,by simp [Go.Sort.putCells,hs],fun i hi=>?_⟩
  ·rw [hheap g hlt];simp [Array.getElem?_modify,hg,Go.Sort.onCells]
  ·simp only [Go.Sort.putCells,Array.getElem?_mapIdx,hc i hi,Option.map_some,Nat.zero_le,true_and,Nat.zero_add,Go.Sort.size_flatK,hd,Nat.sub_zero,id_eq]
   by_cases h:i<n*6
   ·rw [if_pos h,if_pos h,qmG d (fun i=>d[i]!) n i hd (fun _ _=>rfl) h]
   ·rw [if_neg h,if_neg h]
 ·refine ⟨rfl,rfl,rfl,?_,fun k hk hne=>?_⟩
  ·unfold Go.Proofs.sortWorldK;rw [Go.Sort.size_grow];simp [Go.Sort.putRowK,Go.Sort.putRow,Go.Sort.mapBlock,Go.Sort.ahead]
  ·rw [hheap k hk,Array.getElem?_modify,if_neg (fun e=>hne (by rw [e]))]


theorem qei (n:Nat) (h:n<18446744073709551616):IntKind.u64.wrap (n:Int)=n:=IntWalk.u64_in _ (by omega)
theorem qkc (n:Nat) (w:World) (h:n<18446744073709551616):Calls Tryz.prog 154 #[.int .u64 (n:Int)] w fun e w'=>e = .returned (.int .i64 (Lib.bitLen n:Nat))/\w'=w:=by
 have h:=Any.bits_Len Tryz.bitsLen (n:Int) w (by omega) (by omega);rw [Int.toNat_natCast] at h;exact h
theorem qp3 {w : World} {g cap n : Nat} {F : Nat -> Value} {x : Nat -> TE} (hB : Blk w g 129 (cap * 6) F) (hn : n <= cap) (hL : n <= 1099511627776) (hF : ∀ j, j < n * 6 -> F j = tx x j) :
  Calls Tryz.prog 168 #[.slice (some ⟨g,0,none⟩) n cap,.func (.func 169) #[] #[]] w fun e w'=>e = .returned (.tuple #[]) /\
   ∃ (x':Nat->TE) (F':Nat->Value),Blk w' g 129 (cap*6) F'/\(∀ j,j<n*6->F' j=tx x' j)/\((List.range n).map x').Perm ((List.range n).map x)/\(∀ i j,i<j->j<n -> ¬ Mo.lt (x' i).m (x' j).m)/\w.grownBy w' (some g):=by
 have hH:=qov hB hn hF;have hs:=qc7 x n
 have eg : ∀ args w,(callFunc 169 args).run Tryz.prog w = .ok (.enter 169 args) w:=fun _ _=>by kernel_rfl
 have hlim:Lib.bitLen n<4611686018427387904:=Nat.lt_of_le_of_lt (Lib.bitLen_le n 62 (by omega) (by omega)) (by omega);have hp:=AnyQ.pdqsortCmpFunc_all (P:=Tryz.prog) Tryz.pdqTerm 6 qtV qtS teL cfT 169 #[] qtF g 0 cap (qd3 x n) w eg (qoQ g 0 (qd3 x n).size w) ⟨fun _=>rfl,qp1,hH,hB.lt⟩ (n+1) 0 n (Lib.bitLen n) (qd3 x n) w (by omega) rfl (SWK.start hH) (Nat.zero_le _) (by rw [hs];exact Nat.le_refl _) (by rw [hs];omega) hlim (Or.inl rfl);have hsorts:=Go.Sort.pdq_sorts (Go.Proofs.ltOf cfT) qtF (qd3 x n) 0 n (Lib.bitLen n) true true (Nat.zero_le _) (by rw [hs];exact Nat.le_refl _) (Or.inl rfl);rw [hs] at hp;change Calls Tryz.prog 197 _ _ _ at hp;generalize Go.Sort.pdq (Go.Proofs.ltOf cfT) (qd3 x n) 0 n (Lib.bitLen n) true true=d' at hp hsorts;have HP:=Lib.hid hp;have HS:=Lib.hid hsorts;have hwr:=qei n (by omega);have HBL:=Lib.hid (qkc n w (by omega));clear hp hsorts hlim hH hs;generalize Lib.bitLen n=bl at *
 go_enter Tryz.func168,Tryz.ntmps168
 go_wp2_with (fail);refine HBL.out.mono ?_;rintro e w1 ⟨rfl,rfl⟩;go_wp2_with (fail);refine HP.out.mono ?_;rintro e w2 ⟨rfl,q,os,rfl⟩;go_wp2
 go_end0
 obtain ⟨⟨hsz,_,hperm⟩,hsort⟩:=HS.out;rw [qc7] at hsz;obtain ⟨h1,h2⟩:=qk1 (q:=q) hB d' os hsz hn;refine ⟨rfl,fun i=>d'[i]!,_,h1,fun j hj=>by rw [if_pos hj],?_,fun i j hij hj=>?_,h2⟩
 ·have e1 : (d'.extract 0 n).toList = (List.range n).map (fun i => d'[i]!) := by
   apply List.ext_getElem?;intro i
   by_cases hi:i<n
   ·simp [hi,hsz]
   ·rw [List.getElem?_eq_none (by simp;omega),List.getElem?_eq_none (by simp;omega)]
  have e2:((qd3 x n).extract 0 n).toList=(List.range n).map x:=by
   simp [qd3,List.take_of_length_le]
  rw [e1,e2] at hperm;exact hperm
 ·have:=hsort i j (Nat.zero_le _) hij hj;unfold Go.Proofs.ltOf cfT at this;simpa [qdZ] using this
theorem qqL (fv:Value) (w:World):Calls Tryz.prog 207 #[.slice none 0 0,.int .i64 0,.int .i64 0,fv] w fun e w'=>e = .returned (.tuple #[])/\w=w':=by
 go_enter Tryz.func207,Tryz.ntmps207
 go_wp2;refine wp_loop_rounds 1 ?_;rw [rounds_succ];go_wp2
 go_end0
 exact ⟨rfl,rfl⟩
theorem qqh (fv:Value) (w:World):Calls Tryz.prog 197 #[.slice none 0 0,.int .i64 0,.int .i64 0,.int .i64 0,fv] w fun e w'=>e = .returned (.tuple #[])/\w=w':=by
 go_enter Tryz.func197,Tryz.ntmps197
 go_wp2;refine wp_loop_rounds 1 ?_;rw [rounds_succ];go_wp2_with (fail);refine (qqL fv w).mono ?_;rintro e w1 ⟨rfl,rfl⟩;go_wp2;refine bodyPost_ret (results_none rfl _ _ _) rfl ?_;exact ⟨rfl,rfl⟩
theorem qio (fv:Value) (w:World):Calls Tryz.prog 168 #[.slice none 0 0,fv] w fun e w'=>e = .returned (.tuple #[])/\w=w':=by
 have hb:=qkc 0 w (by omega)
 have h0:Lib.bitLen 0=0:=by decide
 rw [h0] at hb;have hwr:IntKind.u64.wrap ((0:Nat):Int)=(0:Nat):=qei 0 (by omega);have HB:=Lib.hid hb;clear hb h0
 go_enter Tryz.func168,Tryz.ntmps168
 go_wp2_with (fail);refine HB.out.mono ?_;rintro e w1 ⟨rfl,rfl⟩;go_wp2_with (fail);refine (qqh fv _).mono ?_;rintro e w2 ⟨rfl,rfl⟩;go_wp2
 go_end0
 exact ⟨rfl,rfl⟩


def tls (n:Nat) (z:Nat->Int) (m:Nat->Mo):List Tm:=(List.range n).map fun i=>(z i,m i)
def MR (M:Nat->Prop) (v:Value):Nat->Prop:=fun b=>M b∨v.ownBlock=some b
def qfF (M:Nat->Prop) (base:Nat) (w:World) (v:Value) (l:List Tm):Prop:=
 ∃ (n:Nat) (z:Nat->Int) (x:Nat->TE),Own w base 129 6 v n (tx x)/\(∀ i,i<n->qbw (MR M v) w (.bool (x i).b) (.slice (x i).a (x i).n (x i).p) (z i))/\l=(List.range n).map (fun i=>(z i,(x i).m))/\n<=1099511627776/\(∀ g,v.ownBlock=some g -> ¬ M g)
def GOk (n:Nat) (m:Nat->Mo):Prop:=(∀ i j,i<j->j<n->m i≠m j) /\ ∀ i,i<n->(m i).nn=true
theorem GOk.inj {n:Nat} {m:Nat->Mo} (h:GOk n m) {i j:Nat} (hi:i<n) (hj:j<n) (e:m i=m j):i=j:=by
 rcases Nat.lt_trichotomy i j with k | k | k
 ·exact absurd e (h.1 i j k hj)
 ·exact k
 ·exact absurd e.symm (h.1 j i k hi)
theorem qnR {n:Nat} {z:Nat->Int} {m:Nat->Mo} (h:GOk n m) {r:List Tm} (hp:r.Perm ((tls n z m).filter fun t=>decide (t.1≠0))) (hs:r.Pairwise (fun s t=>¬ Mo.lt s.2 t.2)):r=norm (tls n z m):=by
 have hd:(tls n z m).Pairwise (fun s t=>s.2≠t.2):=by
  unfold tls;rw [List.pairwise_map];refine (List.pairwise_lt_range (n:=n)).imp_of_mem ?_;intro i j hi hj hij;exact h.1 i j hij (by simpa using hj)
 have hn : ∀ t ∈ tls n z m,t.2.nn=true:=by
  intro t ht;simp only [tls,List.mem_map,List.mem_range] at ht;obtain ⟨i,hi,rfl⟩:=ht;exact h.2 i hi
 obtain ⟨hc,he⟩:=qfA hd hn hp hs;refine qiD hc fun q=>?_;rw [he];unfold qcU
 by_cases hq:q.nn=true
 ·rw [if_pos hq]
 ·rw [if_neg hq];exact qaB fun t ht e=>hq (e ▸ hn t ht)
open Classical in
theorem qe6 {n cnt : Nat} {z : Nat -> Int} {m : Nat -> Mo} (hg : GOk n m) (X x' : Nat -> TE) (hX : ∀ i, i < n -> (X i).m = m i) (σ : Nat -> Nat) (hσ : (List.range cnt).map σ = (List.range n).filter (fun i => decide (z i ≠ 0)))
  (hp:((List.range cnt).map x').Perm ((List.range cnt).map fun j=>X (σ j))) (hs : ∀ i j,i<j->j<cnt -> ¬ Mo.lt (x' i).m (x' j).m) :
  ∃ τ:Nat->Nat,(∀ j,j<cnt->τ j<n/\x' j=X (τ j))/\norm (tls n z m)=(List.range cnt).map (fun j=>(z (τ j),(x' j).m)):=by
 have hmem : ∀ j,j<cnt -> ∃ i,i<n/\x' j=X i:=by
  intro j hj;have h1:x' j ∈ (List.range cnt).map x':=List.mem_map.2 ⟨j,List.mem_range.2 hj,rfl⟩;have h2:=(hp.mem_iff).1 h1;obtain ⟨q,hq,e⟩:=List.mem_map.1 h2;have h3:σ q ∈ (List.range cnt).map σ:=List.mem_map.2 ⟨q,hq,rfl⟩;rw [hσ] at h3;exact ⟨σ q,by simpa using (List.mem_filter.1 h3).1,e.symm⟩
 let φ:TE->Tm:=fun t=>((if h : ∃ i,i<n/\t=X i then z (Classical.choose h) else 0),t.m)
 have hφ : ∀ i,i<n->φ (X i)=(z i,m i):=by
  intro i hi;have hex : ∃ j,j<n/\X i=X j:=⟨i,hi,rfl⟩;have hc:=Classical.choose_spec hex
  have he:Classical.choose hex=i:=by
   refine (hg.inj hi hc.1 ?_).symm;rw [<- hX i hi,<- hX _ hc.1,<- hc.2]
  show ((if h : ∃ j,j<n/\X i=X j then z (Classical.choose h) else 0),(X i).m)=_;rw [dif_pos hex,he,hX i hi]
 obtain ⟨τ,hτ⟩ : ∃ τ:Nat->Nat,∀ j,j<cnt->τ j<n/\x' j=X (τ j):=⟨fun j=>if h:j<cnt then Classical.choose (hmem j h) else 0,fun j hj=>by
  simp only [dif_pos hj]
  exact Classical.choose_spec (hmem j hj)⟩
 refine ⟨τ,hτ,?_⟩
 ·have hr : ((List.range cnt).map fun j => φ (x' j)) = (List.range cnt).map (fun j => (z (τ j), (x' j).m)) := by
   apply List.map_congr_left;intro j hj
   have hj':j<cnt:=by simpa using hj
   have hc:=hτ j hj';rw [hc.2,hφ _ hc.1,hX _ hc.1]
  rw [<- hr];refine (qnR hg ?_ ?_).symm
  ·have h1 : ((List.range cnt).map fun j => φ (x' j)).Perm ((List.range cnt).map fun j => φ (X (σ j))) := by
    have:=hp.map φ;simpa [List.map_map,Function.comp_def] using this
   refine h1.trans (List.Perm.of_eq ?_)
   have h2:((List.range cnt).map fun j=>φ (X (σ j)))=((List.range cnt).map σ).map (fun i=>φ (X i)):=by simp [List.map_map,Function.comp_def]
   rw [h2,hσ];unfold tls;rw [List.filter_map];have h3:(List.range n).filter ((fun t:Tm=>decide (t.1≠0)) ∘ fun i=>(z i,m i))=(List.range n).filter (fun i=>decide (z i≠0)):=rfl;rw [h3];apply List.map_congr_left;intro i hi;exact hφ i (by simpa using (List.mem_filter.1 hi).1)
  ·rw [List.pairwise_map];refine (List.pairwise_lt_range (n:=cnt)).imp_of_mem ?_;intro i j hi hj hij;exact hs i j hij (by simpa using hj)


theorem qnn {n:Nat} {c0 c1:Nat->Value} {m:Nat->Mo} (h : ∀ i,i<n -> ∃ b a q p,c0 i = .bool b/\c1 i = .slice a q p) : ∃ X:Nat->TE,∀ i,i<n->c0 i = .bool (X i).b/\c1 i = .slice (X i).a (X i).n (X i).p/\(X i).m=m i:=by
 refine ⟨fun i=>if hi:i<n then ⟨Classical.choose (h i hi),Classical.choose (Classical.choose_spec (h i hi)),Classical.choose (Classical.choose_spec (Classical.choose_spec (h i hi))),Classical.choose (Classical.choose_spec (Classical.choose_spec (Classical.choose_spec (h i hi)))),m i⟩ else default,fun i hi=>?_⟩;have hs:=Classical.choose_spec (Classical.choose_spec (Classical.choose_spec (Classical.choose_spec (h i hi))));simp only [dif_pos hi];exact ⟨hs.1,hs.2,trivial⟩
theorem qnN (x y:Nat->TE) (n:Nat) (h : ∀ i,i<n->x i=y i) (j:Nat) (hj:j<n*6):tx x j=tx y j:=by
 unfold tx qbT;simp only [];rw [h (j / 6) (by omega)]
theorem qo7 (x:Nat->TE) (n:Nat) (t:TE) (j:Nat) (hj:j<(n+1)*6):app (tx x) (n*6) (arr #[.bool t.b,.slice t.a t.n t.p,.int .i64 t.m.a,.int .i64 t.m.b,.int .i64 t.m.c,.int .i64 t.m.d]) j=tx (fun i=>if i=n then t else x i) j:=by
 have h:=qhn (fun i=>.bool (x i).b) (fun i=>.slice (x i).a (x i).n (x i).p) (fun i=>(x i).m) n t.m (.bool t.b) (.slice t.a t.n t.p) j hj;unfold tx;rw [h];unfold qbT qhk qd2
 by_cases hn:j / 6=n
 ·simp [hn]
 ·simp [hn]
theorem qpn (t:TE) (j:Nat) (hj:j<6):(arr #[.bool t.b,.slice t.a t.n t.p,.int .i64 t.m.a,.int .i64 t.m.b,.int .i64 t.m.c,.int .i64 t.m.d] j).oneCell'=true:=by
 match j,hj with
 | 0,_=>rfl
 | 1,_=>rfl
 | 2,_=>rfl
 | 3,_=>rfl
 | 4,_=>rfl
 | 5,_=>rfl
def qnB (z:Nat->Int) (k cnt:Nat) (σ:Nat->Nat):Prop:=(List.range cnt).map σ=(List.range k).filter (fun i=>decide (z i≠0))
theorem qnB.len {z:Nat->Int} {k cnt:Nat} {σ:Nat->Nat} (h:qnB z k cnt σ):cnt<=k:=by
 have:=congrArg List.length h;simp only [List.length_map,List.length_range] at this;rw [this];exact Nat.le_trans (List.length_filter_le _ _) (by simp)
theorem qnB.skip {z:Nat->Int} {k cnt:Nat} {σ:Nat->Nat} (h:qnB z k cnt σ) (hz:z k=0):qnB z (k+1) cnt σ:=by
 unfold qnB at *;rw [h,List.range_succ,List.filter_append];simp [hz]
theorem qnB.take {z:Nat->Int} {k cnt:Nat} {σ:Nat->Nat} (h:qnB z k cnt σ) (hz:z k≠0):qnB z (k+1) (cnt+1) (fun i=>if i=cnt then k else σ i):=by
 unfold qnB at *;rw [List.range_succ,List.range_succ,List.filter_append,<- h,List.map_append]
 congr 1
 ·apply List.map_congr_left;intro i hi
  have:i≠cnt:=by simp at hi;omega
  simp [this]
 ·simp [hz]
theorem qiL (M : Nat -> Prop) (base g n : Nat) (z : Nat -> Int) (m : Nat -> Mo) (w : World) (hM : Mb M w) (hG : GSt M base w g n z m) (hok : GOk n m) :
  Calls Tryz.prog 148 #[.pointer (some ⟨g,0,none⟩)] w fun e w'=>∃ v,e = .returned v/\qfF M w.heap.size w' v (norm (tls n z m))/\Ext w w':=by
 obtain ⟨i0,hi,hz0,hz1,hz2⟩:=info_parts Tryz.info129;obtain ⟨r,tv,c0,c1,hB,hbg,hbr,hrg,htg,htr,hMp,hO,hC,hnL⟩:=hG;obtain ⟨X,hX⟩:=qnn (m:=m) (fun i hi=>(hC i hi).form)
 have HC:Hid (∀ i,i<n->qbw (GM M g r tv) w (.bool (X i).b) (.slice (X i).a (X i).n (X i).p) (z i)):=fun i hi=>by
  have:=hC i hi;rw [(hX i hi).1,(hX i hi).2.1] at this;exact this
 have HXm:Hid (∀ i,i<n->(X i).m=m i):=fun i hi=>(hX i hi).2.2
 have hcell : ∀ i,i<n -> ∃ tb cap,tv = .slice (some ⟨tb,0,none⟩) n cap/\tb<w.heap.size/\w.cell? ⟨tb,i*6,none⟩=some (.bool (X i).b)/\w.cell? ⟨tb,i*6+1,none⟩=some (.slice (X i).a (X i).n (X i).p)/\w.cell? ⟨tb,i*6+2,none⟩=some (.int .i64 (X i).m.a)/\w.cell? ⟨tb,i*6+3,none⟩=some (.int .i64 (X i).m.b)/\w.cell? ⟨tb,i*6+4,none⟩=some (.int .i64 (X i).m.c)/\w.cell? ⟨tb,i*6+5,none⟩=some (.int .i64 (X i).m.d):=by
  intro i hi;obtain ⟨tb,cap,F,rfl,hbt,hBt,hncap,hcm,hF⟩:=hO.some (by omega);have hnk:n*6<=cap*6:=Nat.mul_le_mul_right _ hncap;refine ⟨tb,cap,rfl,hBt.lt,?_,?_,?_,?_,?_,?_⟩
  ·rw [hBt.cell (by omega),hF _ (by omega),qfL,(hX i hi).1]
  ·rw [hBt.cell (by omega),hF _ (by omega),qfK,(hX i hi).2.1]
  ·rw [hBt.cell (by omega),hF _ (by omega),qhr,(hX i hi).2.2]
  ·rw [hBt.cell (by omega),hF _ (by omega),qhq,(hX i hi).2.2]
  ·rw [hBt.cell (by omega),hF _ (by omega),qhp,(hX i hi).2.2]
  ·rw [hBt.cell (by omega),hF _ (by omega),qho,(hX i hi).2.2]
 have HCELL:=Lib.hid hcell;have hlt : ∀ b,tv.ownBlock=some b->b<w.heap.size:=fun b hb=>(hO.lt b hb).2;have HLT:=Lib.hid hlt;have hgl:=hB.lt;have hrl:=hMp.lt;obtain ⟨ta,tc,rfl⟩:=hO.form;have g1:=hB.cell (i:=1) (by omega);simp only [arr] at g1;have HOK:=Lib.hid hok;clear hcell hX hC hok hlt hB hO hMp
 go_enter Tryz.func148,Tryz.ntmps148
 go_wp2
 go_loopw [11,3] (fun i v wr=>∃ (k cnt:Nat) (σ:Nat->Nat),k<=n/\i = .int .i64 k/\qnB z k cnt σ/\Own wr w.heap.size 129 6 v cnt (tx fun j=>X (σ j))/\Ext w wr) (fun i _ _=>n - (intOf i).toNat)
 case atStart=>exact ⟨0,0,fun _=>0,Nat.zero_le _,rfl,rfl,Own.nil _ _ _ _ _,Ext.refl _⟩
 case round=>
  obtain ⟨k,cnt,σ,hk,rfl,hcol,hOr,her⟩:=hrel;have hcnt:=hcol.len;have HCOL:=Lib.hid hcol;clear hcol;obtain ⟨va,vc,rfl⟩:=hOr.form;have hsz:=her.size
  by_cases hlt:k<n
  ·obtain ⟨tb,cap,hta,htb,x0,x1,x2,x3,x4,x5⟩:=HCELL.out k hlt;simp only [Value.slice.injEq,true_and] at hta;obtain ⟨rfl,rfl⟩:=hta;rw [<- her.cell htb] at x0 x1 x2 x3 x4 x5
   have htb':tb<wr.heap.size:=by omega
   have hIk:=((HC.out k hlt).ext her).toV;have HIk:=Lib.hid hIk;clear hIk;go_wp2_with (fail);have hEa:Ext wr (wr.alloc (.cells #[.bool (X k).b,.slice (X k).a (X k).n (X k).p,.int .i64 (X k).m.a,.int .i64 (X k).m.b,.int .i64 (X k).m.c,.int .i64 (X k).m.d] 129)):=(Ext.refl wr).alloc _;have hBx:=Blk.of_arr wr #[.bool (X k).b,.slice (X k).a (X k).n (X k).p,.int .i64 (X k).m.a,.int .i64 (X k).m.b,.int .i64 (X k).m.c,.int .i64 (X k).m.d] 129 6 rfl;refine (qdd _ _ (z k) _ (HIk.out.ext hEa)).mono ?_;rintro e w1 ⟨rfl,he1⟩;have hE1:=hEa.trans he1;have hBx1:=hBx.ext he1;have y0:=hBx1.cell (i:=0) (by omega);have y1:=hBx1.cell (i:=1) (by omega);have y2:=hBx1.cell (i:=2) (by omega);have y3:=hBx1.cell (i:=3) (by omega);have y4:=hBx1.cell (i:=4) (by omega);have y5:=hBx1.cell (i:=5) (by omega);simp only [arr] at y0 y1 y2 y3 y4 y5;have hO1:=hOr.ext hE1;clear x0 x1 x2 x3 x4 x5 HIk hBx hBx1
   by_cases hz:z k=0
   ·have t0:((z k).sign != 0)=false:=by simp [hz]
    have t1:((z k).sign == 0)=true:=by simp [hz]
    have HZ:=Lib.hid hz;clear hz;go_wp2
    go_roundw
    case rel=>exact ⟨k+1,cnt,σ,by omega,by go_num,HCOL.out.skip HZ.out,hO1,her.trans hE1⟩
    case measure=>simp [intOf];omega
   ·have t0:((z k).sign != 0)=true:=by simp [hz]
    have t1:((z k).sign == 0)=false:=by simp [hz]
    have HZ:=Lib.hid hz;clear hz;have hs1:=hE1.size;have hB5:=Blk.of_arr w1 #[.bool (X k).b,.slice (X k).a (X k).n (X k).p,.int .i64 (X k).m.a,.int .i64 (X k).m.b,.int .i64 (X k).m.c,.int .i64 (X k).m.d] 129 6 rfl;have hO5:=hO1.ext ((Ext.refl w1).alloc (.cells #[.bool (X k).b,.slice (X k).a (X k).n (X k).p,.int .i64 (X k).m.a,.int .i64 (X k).m.b,.int .i64 (X k).m.c,.int .i64 (X k).m.d] 129));have hone:=qpn (X k);have HONE:=Lib.hid hone;clear hone
    go_wp2_with (at_builtin;refine qa3 _ rfl (.tmp 19) (.tmp 21) _ rfl w.heap.size 129 i0 _ 6 64 Tryz.underlying71 hi hz0 hz1 hz2 rfl (by omega) (.slice va cnt vc) cnt (tx fun j=>X (σ j)) rfl hO5 w1.heap.size 129 1 (arr #[.bool (X k).b,.slice (X k).a (X k).n (X k).p,.int .i64 (X k).m.a,.int .i64 (X k).m.b,.int .i64 (X k).m.c,.int .i64 (X k).m.d]) rfl hB5 HONE.out ?s1 ?s2 ?s3 ?_)
    case s1=>unfold maxLen;omega
    case s2=>omega
    case s3=>simp;omega
    intro gg cap2 w2 hO6 hg6 hat hlt6;have hE2:Ext w w2:=((her.trans hE1).alloc _).grown hg6 (fun q hq=>(hO5.lt q hq).1)
    have hO7:=hO6.congr (f':=tx fun j=>X (if j=cnt then k else σ j)) (fun j hj=>by
     rw [qo7 _ _ _ _ hj]
     exact qnN _ _ (cnt+1) (fun i _=>by by_cases h:i=cnt <;> simp [h]) j hj)
    clear hO6 hO5 hB5 hg6 hat;go_wp2
    go_roundw
    case rel=>exact ⟨k+1,cnt+1,_,by omega,by go_num,HCOL.out.take HZ.out,hO7,hE2⟩
    case measure=>simp [intOf];omega
  ·have:k=n:=by omega
   subst this;clear hlt
   have hGMx : ∀ (v:Value),(∀ b,v.ownBlock=some b->w.heap.size<=b) -> ∀ b,MR M v b->GM M g r (.slice ta k tc) b∨w.heap.size<=b:=by
    intro v hv b hb;rcases hb with hb | hb
    ·exact .inl (.inl hb)
    ·exact .inr (hv b hb)
   have HGMX:=Lib.hid hGMx;clear hGMx;rcases hOr with ⟨hvv,rfl⟩ | ⟨gg,cap,F,hvv,hbg2,hBg,hncap,hcm,hF⟩
   ·simp only [Value.slice.injEq,true_and] at hvv;obtain ⟨rfl,rfl⟩:=hvv;obtain ⟨τ,hτ,hnorm⟩:=qe6 HOK.out X X HXm.out σ HCOL.out (by simp) (by intro i j hij hj;omega);have hres:qfF M w.heap.size wr (.slice none 0 0) (norm (tls k z m)):=⟨0,fun j=>z (τ j),X,.inl ⟨rfl,rfl⟩,fun i hi=>by omega,hnorm,by omega,fun q hq=>by simp [Value.ownBlock] at hq⟩;clear hτ hnorm;go_wp2_with (fail);refine (qio _ _).mono ?_;rintro e w1 ⟨rfl,rfl⟩;go_wp2;go_ret;exact ⟨_,rfl,hres,her⟩
   ·simp only [Value.slice.injEq,true_and] at hvv;obtain ⟨rfl,rfl⟩:=hvv;have ctr:=qp3 hBg hncap (by omega) hF;have CTR:=Lib.hid ctr;clear ctr hF;go_wp2_with (fail);refine CTR.out.mono ?_;rintro e w1 ⟨rfl,x',F',hB',hF',hperm,hsort,hg'⟩;have hE1:Ext w w1:=her.grown hg' (fun q hq=>by cases hq;exact hbg2);obtain ⟨τ,hτ,hnorm⟩:=qe6 HOK.out X x' HXm.out σ HCOL.out hperm hsort
    have hres:qfF M w.heap.size w1 (.slice (some ⟨gg,0,none⟩) cnt vc) (norm (tls k z m)):=by
     refine ⟨cnt,fun j=>z (τ j),x',.inr ⟨gg,vc,F',rfl,hbg2,hB',hncap,hcm,hF'⟩,fun i hi=>?_,hnorm,by omega,fun q hq hm=>?_⟩
     ·rw [(hτ i hi).2];exact ((HC.out (τ i) (hτ i hi).1).more (HGMX.out _ (fun b hb=>by simp only [Value.ownBlock,Option.some.injEq] at hb;subst hb;exact hbg2))).ext hE1
     ·simp only [Value.ownBlock,Option.some.injEq] at hq;subst hq;have:=hM _ hm;omega
    clear hτ hnorm hsort hperm hF' hB';go_wp2;go_ret;exact ⟨_,rfl,hres,hE1⟩

theorem qmE (M : Nat -> Prop) (w : World) :
  Calls Tryz.prog 146 #[] w fun e w'=>e = .returned (.pointer (some ⟨w.heap.size+1,0,none⟩))/\GSt M w.heap.size w' (w.heap.size+1) 0 (fun _=>0) (fun _=>⟨0,0,0,0⟩)/\Ext w w':=by
 have hmm:=@run_makeMap Tryz.prog
 go_enter Tryz.func146,Tryz.ntmps146
 go_wp2;go_ret;refine ⟨rfl,⟨w.heap.size,.slice none 0 0,fun _=>.bool false,fun _=>.bool false,?_,by omega,Nat.le_refl _,by omega,by simp [Value.ownBlock],by simp [Value.ownBlock],?_,Own.nil _ _ _ _ _,fun i hi=>by omega,by omega⟩,((Ext.refl w).alloc _).alloc _⟩
 ·have:=Blk.of_arr (w.alloc (.map #[] 0)) #[.map (some w.heap.size),.slice none 0 0] 190 2 rfl;simpa using this
 ·unfold qcs;rw [Below.heap_alloc _ _ _ (by simp),heap_alloc_new];rfl


theorem qcf (n:Nat) (z:Nat->Int) (m:Nat->Mo):tls (n+1) z m=tls n z m ++ [(z n,m n)]:=by
 unfold tls;rw [List.range_succ,List.map_append];rfl
theorem qe2 {n:Nat} {z z':Nat->Int} {m m':Nat->Mo} (h : ∀ i,i<n->z i=z' i/\m i=m' i):tls n z m=tls n z' m':=by
 unfold tls;apply List.map_congr_left;intro i hi;have:=h i (by simpa using hi);rw [this.1,this.2]
theorem qp0 (n i:Nat) (z:Nat->Int) (m:Nat->Mo) (c:Int) (hi:i<n) (q:Mo):qab (tls n (fun j=>if j=i then z j+c else z j) m) q=qab (tls n z m) q+(if m i=q then c else 0):=by
 induction n with
 | zero=>omega
 | succ n ih=>
  rw [qcf,qcf,qae,qae]
  by_cases hn:i=n
  ·subst hn;rw [qe2 (z':=z) (m':=m) (fun j hj=>⟨if_neg (by omega),rfl⟩)];simp only [qab,if_true]
   split <;> omega
  ·rw [ih (by omega)];simp only [qab,if_neg (fun e=>hn e.symm : ¬ n=i)];omega
theorem qil (n i:Nat) (z:Nat->Int) (m:Nat->Mo) (c:Int) (hi:i<n):nrm (tls n (fun j=>if j=i then z j+c else z j) m)<=nrm (tls n z m)+c.natAbs:=by
 induction n with
 | zero=>omega
 | succ n ih=>
  rw [qcf,qcf,qai,qai]
  by_cases hn:i=n
  ·subst hn;rw [qe2 (z':=z) (m':=m) (fun j hj=>⟨if_neg (by omega),rfl⟩)];simp only [nrm,if_true];omega
  ·have:=ih (by omega);simp only [nrm,if_neg (fun e=>hn e.symm : ¬ n=i)];omega
theorem qlq (n:Nat) (z:Nat->Int) (m:Nat->Mo) (c:Int) (k:Mo):tls (n+1) (fun j=>if j=n then c else z j) (qd2 m n k)=tls n z m ++ [(c,k)]:=by
 rw [qcf]
 congr 1
 ·exact qe2 fun i hi=>⟨if_neg (by omega),by unfold qd2;rw [if_neg (by omega)]⟩
 ·simp [qd2]
theorem qqr (n i:Nat) (z:Nat->Int) (m:Nat->Mo) (hi:i<n):(z i).natAbs<=nrm (tls n z m):=
 qqq (t:=(z i,m i)) (List.mem_map.2 ⟨i,List.mem_range.2 hi,rfl⟩)
theorem qkJ (M : Nat -> Prop) (base g n : Nat) (z : Nat -> Int) (m : Nat -> Mo) (k : Mo) (d0 d1 : Value) (c : Int) (w : World) (hM : Mb M w) (hG : GSt M base w g n z m) (hok : GOk n m) (hIg : qbq (fun b => M b ∨ qii w g b) w d0 d1 c)
  (hn:n+1<=1099511627776) (hL:dlen (nrm (tls n z m)+c.natAbs)<=1099511627776) :
  Calls Tryz.prog 147 #[.pointer (some ⟨g,0,none⟩),moV k,.agg #[d0,d1]] w fun e w'=>e = .returned (.tuple #[]) /\ ∃ n' z' m',GSt M base w' g n' z' m'/\GOk n' m'/\n'<=n+1 /\
   nrm (tls n' z' m')<=nrm (tls n z m)+c.natAbs/\(∀ q,qab (tls n' z' m') q=qab (tls n z m) q+(if k.nn=true then (if k=q then c else 0) else 0))/\Below base w w'/\Fr g w w':=by
 have hI:qbq M w d0 d1 c:=hIg.more (fun b hb=>.inl (.inl hb))
 have hbw:base<=w.heap.size:=by have:=hG.lt;omega
 by_cases hnn:k.nn=true
 ·by_cases hex : ∃ i,i<n/\m i=k
  ·obtain ⟨i,hi,hk⟩:=hex;refine (qkI M base g n z m k d0 d1 c w hM hI hG hIg hnn i hi hk (fun j hj e=>hok.1 j i hj hi (e.trans hk.symm)) (Nat.le_trans (qal ?_) hL)).mono ?_
   ·have:=qqr n i z m hi;omega
   ·rintro e w' ⟨rfl,hG',hb⟩;refine ⟨rfl,n,_,m,hG',hok,by omega,qil n i z m c hi,fun q=>?_,hb⟩;rw [qp0 n i z m c hi q,hk,if_pos hnn]
  ·refine (qkG M base g n z m k d0 d1 c w hM hI hG hIg hnn (fun j hj e=>hex ⟨j,hj,e⟩) hn).mono ?_;rintro e w' ⟨rfl,hG',hb⟩;refine ⟨rfl,n+1,_,_,hG',⟨fun i j hij hj=>?_,fun i hi=>?_⟩,Nat.le_refl _,?_,fun q=>?_,hb⟩
   ·unfold qd2
    by_cases hjn:j=n
    ·rw [if_neg (by omega),if_pos hjn];exact fun e=>hex ⟨i,by omega,e⟩
    ·rw [if_neg (by omega),if_neg hjn];exact hok.1 i j hij (by omega)
   ·unfold qd2
    by_cases hin:i=n
    ·rw [if_pos hin];exact hnn
    ·rw [if_neg hin];exact hok.2 i (by omega)
   ·rw [qlq,qai];simp [nrm]
   ·rw [qlq,qae,if_pos hnn];simp [qab]
 ·refine (qkH M base g k d0 d1 c w hI (by simpa using hnn)).mono ?_;rintro e w' ⟨rfl,he⟩;exact ⟨rfl,n,z,m,hG.ext he,hok,by omega,by omega,fun q=>by rw [if_neg hnn];omega,qc4 he hbw,Fr.of_ext hG.lt.2 he⟩

def qtL (M:Nat->Prop) (w:World) (v:Value) (n:Nat) (c0 c1:Nat->Value) (m:Nat->Mo):Prop:=
 n<=1099511627776/\(((∃ a cap,v = .slice a 0 cap/\cap<=maxLen)/\n=0) ∨ ∃ b off cap,v = .slice (some ⟨b,off,none⟩) n cap/\n<=cap/\cap<=maxLen/\(b<w.heap.size /\ ¬ M b) /\ ∀ i,i<n->w.cell? ⟨b,off+i*6,none⟩=some (c0 i)/\w.cell? ⟨b,off+i*6+1,none⟩=some (c1 i) /\
  w.cell? ⟨b,off+i*6+2,none⟩=some (.int .i64 (m i).a)/\w.cell? ⟨b,off+i*6+3,none⟩=some (.int .i64 (m i).b)/\w.cell? ⟨b,off+i*6+4,none⟩=some (.int .i64 (m i).c)/\w.cell? ⟨b,off+i*6+5,none⟩=some (.int .i64 (m i).d))
def qnw (M:Nat->Prop) (w:World) (v:Value) (l:List Tm):Prop:=
 ∃ (n:Nat) (z:Nat->Int) (m:Nat->Mo) (c0 c1:Nat->Value),qtL M w v n c0 c1 m/\l=tls n z m /\ ∀ i,i<n->qbq M w (c0 i) (c1 i) (z i)
def qs3 (M:Nat->Prop) (w:World) (v:Value) (l:List Tm):Prop:=
 ∃ (n:Nat) (z:Nat->Int) (m:Nat->Mo) (c0 c1:Nat->Value),qtL (fun _=>False) w v n c0 c1 m/\l=tls n z m /\ ∀ i,i<n->qbq M w (c0 i) (c1 i) (z i)
theorem qnw.w {M:Nat->Prop} {w:World} {v:Value} {l:List Tm} (h:qnw M w v l):qs3 M w v l:=by
 obtain ⟨n,z,m,c0,c1,⟨hnL,hrow⟩,h1,h2⟩:=h;refine ⟨n,z,m,c0,c1,⟨hnL,?_⟩,h1,h2⟩;rcases hrow with hrow | ⟨b,off,cap,hv,hn,hc,hb,hcell⟩
 ·exact .inl hrow
 ·exact .inr ⟨b,off,cap,hv,hn,hc,⟨hb.1,fun h=>h⟩,hcell⟩
theorem qnQ (n k:Nat) (z:Nat->Int) (m:Nat->Mo) (h:k<=n) : ∃ r,tls n z m=tls k z m ++ r:=by
 obtain ⟨j,rfl⟩ : ∃ j,n=k+j:=⟨n - k,by omega⟩;unfold tls;rw [List.range_add,List.map_append];exact ⟨_,rfl⟩
theorem qfF.base {M:Nat->Prop} {B B':Nat} {w:World} {v:Value} {l:List Tm} (h:qfF M B w v l) (hb:B'<=B):qfF M B' w v l:=by
 obtain ⟨n,z,x,h1,h2,h3,h4,h5⟩:=h;refine ⟨n,z,x,?_,h2,h3,h4,h5⟩;rcases h1 with h1 | ⟨g,cap,F,hv,hg,r⟩
 ·exact .inl h1
 ·exact .inr ⟨g,cap,F,hv,Nat.le_trans hb hg,r⟩
theorem qkr (M : Nat -> Prop) (v : Value) (l : List Tm) (w : World) (hM : Mb M w) (hP : qs3 M w v l) (hL : dlen (nrm l) <= 1099511627776) :
  Calls Tryz.prog 100 #[v] w fun e w'=>∃ u,e = .returned u/\qfF M w.heap.size w' u (norm l)/\Ext w w':=by
 obtain ⟨n,z,m,c0,c1,⟨hnL,hrow⟩,rfl,hI⟩:=hP;have HI:=Lib.hid hI;have HROW:=Lib.hid hrow
 obtain ⟨va,vc,rfl⟩ : ∃ a cap,v = .slice a n cap:=by
  rcases hrow with ⟨⟨_,_,rfl,_⟩,rfl⟩ | ⟨b,off,cap,rfl,_⟩
  ·exact ⟨_,_,rfl⟩
  ·exact ⟨_,_,rfl⟩
 have HL:=Lib.hid hL;clear hI hrow hL
 go_enter Tryz.func100,Tryz.ntmps100
 go_wp2_with (fail);refine (qmE M w).mono ?_;rintro e w1 ⟨rfl,hG,he1⟩;go_wp2
 go_loopw [9] (fun i wr=>∃ (k n':Nat) (z':Nat->Int) (m':Nat->Mo),k<=n/\i = .int .i64 k/\GSt M w.heap.size wr (w.heap.size+1) n' z' m'/\GOk n' m'/\n'<=k/\Hid (nrm (tls n' z' m')<=nrm (tls k z m))/\Hid (∀ q,qab (tls n' z' m') q=qcU (tls k z m) q)/\Ext w wr) (fun i _=>n - (intOf i).toNat)
 case atStart=>exact ⟨0,0,_,_,Nat.zero_le _,rfl,hG,⟨fun i j _ h=>by omega,fun i h=>by omega⟩,Nat.le_refl _,Nat.le_refl _,fun q=>by simp [tls,qab,qcU],he1⟩
 case round=>
  clear hG he1;obtain ⟨k,n',z',m',hk,rfl,hG,hok,hn',HN,HQ,her⟩:=hrel;have HOK:=Lib.hid hok;clear hok;have hsz:=her.size
  by_cases hlt:k<n
  ·rcases HROW.out with ⟨_,h0⟩ | ⟨b,off,cap,hv,hcap,hm,hb,hcells⟩
   ·omega
   simp only [Value.slice.injEq,true_and] at hv;obtain ⟨rfl,rfl⟩:=hv;obtain ⟨x0,x1,x2,x3,x4,x5⟩:=hcells k hlt;clear hcells;have hIk:=HI.out k hlt;obtain ⟨b1,a1,n1,p1,e0,e1⟩:=hIk.form;rw [e0,e1] at hIk;rw [e0] at x0;rw [e1] at x1;rw [<- her.cell hb.1] at x0 x1 x2 x3 x4 x5
   have hbw:b<wr.heap.size:=by omega
   have hIg:qbq (fun b=>M b∨w.heap.size<=b) wr (.bool b1) (.slice a1 n1 p1) (z k):=(hIk.more (fun b hb=>hb)).ext her;have HIG:=Lib.hid hIg
   have hLk:dlen (nrm (tls n' z' m')+(z k).natAbs)<=1099511627776:=by
    refine Nat.le_trans (qal ?_) HL.out;obtain ⟨r,hr⟩:=qnQ n (k+1) z m (by omega);rw [hr,qai,qcf,qai];have:=HN.out;simp [nrm];omega
   have hsucc : ∀ q,qcU (tls (k+1) z m) q=qcU (tls k z m) q+(if (m k).nn=true then (if m k=q then z k else 0) else 0):=by
    intro q;unfold qcU;rw [qcf,qae]
    by_cases hq:q.nn=true
    ·rw [if_pos hq,if_pos hq];simp only [qab]
     by_cases hmq:m k=q
     ·rw [if_pos hmq,if_pos (by rw [hmq];exact hq)];omega
     ·rw [if_neg hmq];split <;> simp [hmq]
    ·rw [if_neg hq,if_neg hq]
     by_cases hmk:(m k).nn=true
     ·rw [if_pos hmk,if_neg (fun (e:m k=q)=>hq (e ▸ hmk))];omega
     ·rw [if_neg hmk];omega
   have HSUCC:=Lib.hid hsucc;have HLK:=Lib.hid hLk;clear hsucc hLk hIg hIk e0 e1;go_wp2_with (fail);refine (qkJ M w.heap.size (w.heap.size+1) n' z' m' (m k) _ _ (z k) _ (hM.size (by simp;omega)) (hG.ext ((Ext.refl wr).alloc _)) HOK.out ((HIG.out.ext ((Ext.refl wr).alloc _)).more (fun b hb=>.inl (hb.imp id (fun h=>(hG.gblk (h.ext ((Ext.refl wr).alloc _) hG.lt.2)).1)))) (by omega) HLK.out).mono ?_;rintro e w2 ⟨rfl,n2,z2,m2,hG2,hok2,hn2,hN2,hQ2,hb2,_⟩;have hE2:Ext w w2:=Below.trans (Ext.below (her.alloc _)) hb2;have HOK2:=Lib.hid hok2
   have HN2:Hid (nrm (tls n2 z2 m2)<=nrm (tls (k+1) z m)):=by
    show _<=_;rw [qcf,qai];have:=HN.out;simp [nrm];omega
   have HQ2:Hid (∀ q,qab (tls n2 z2 m2) q=qcU (tls (k+1) z m) q):=fun q=>by rw [hQ2 q,HQ.out q,HSUCC.out q]
   clear hok2 hN2 hQ2 hb2 x0 x1 x2 x3 x4 x5;go_wp2
   go_roundw
   case rel=>exact ⟨k+1,n2,z2,m2,by omega,by go_num,hG2,HOK2.out,by omega,HN2,HQ2,hE2⟩
   case measure=>simp [intOf];omega
  ·have:k=n:=by omega
   subst this
   have hnorm:norm (tls n' z' m')=norm (tls k z m):=by
    refine qiD (qaH _) (fun q=>?_);rw [qcv];unfold qcU
    by_cases hq:q.nn=true
    ·rw [if_pos hq,HQ.out q];unfold qcU;rw [if_pos hq]
    ·rw [if_neg hq,if_neg hq]
   have HNORM:=Lib.hid hnorm;clear hnorm;go_wp2_with (fail);refine (qiL M w.heap.size (w.heap.size+1) n' z' m' _ (hM.size hsz) hG HOK.out).mono ?_;rintro e w2 ⟨u,rfl,hu,he2⟩;rw [HNORM.out] at hu;go_wp2;go_ret;refine ⟨u,rfl,?_,her.trans he2⟩;exact hu.base hsz
theorem qlz (M : Nat -> Prop) (v : Value) (l : List Tm) (w : World) (hM : Mb M w) (hP : qnw M w v l) (hL : dlen (nrm l) <= 1099511627776) :
  Calls Tryz.prog 100 #[v] w fun e w'=>∃ u,e = .returned u/\qfF M w.heap.size w' u (norm l)/\Ext w w':=qkr M v l w hM hP.w hL


def qce (M:Nat->Prop) (w:World) (v:Value) (n:Nat) (z:Nat->Int) (x:Nat->TE):Prop:=
 n<=1099511627776/\(((∃ a cap,v = .slice a 0 cap/\cap<=maxLen)/\n=0) ∨ ∃ b off cap,v = .slice (some ⟨b,off,none⟩) n cap/\n<=cap/\cap<=maxLen/\(b<w.heap.size /\ ¬ M b) /\ ∀ i,i<n->w.cell? ⟨b,off+i*6,none⟩=some (.bool (x i).b)/\w.cell? ⟨b,off+i*6+1,none⟩=some (.slice (x i).a (x i).n (x i).p) /\
  w.cell? ⟨b,off+i*6+2,none⟩=some (.int .i64 (x i).m.a)/\w.cell? ⟨b,off+i*6+3,none⟩=some (.int .i64 (x i).m.b)/\w.cell? ⟨b,off+i*6+4,none⟩=some (.int .i64 (x i).m.c)/\w.cell? ⟨b,off+i*6+5,none⟩=some (.int .i64 (x i).m.d)) /\
 ∀ i,i<n->qbq M w (.bool (x i).b) (.slice (x i).a (x i).n (x i).p) (z i)
def xls (n:Nat) (z:Nat->Int) (x:Nat->TE):List Tm:=(List.range n).map fun i=>(z i,(x i).m)
theorem qce.v {M:Nat->Prop} {w:World} {v:Value} {n:Nat} {z:Nat->Int} {x:Nat->TE} (h:qce M w v n z x):qnw M w v (xls n z x):=by
 obtain ⟨hn,hrow,hI⟩:=h;exact ⟨n,z,fun i=>(x i).m,fun i=>.bool (x i).b,fun i=>.slice (x i).a (x i).n (x i).p,⟨hn,hrow⟩,rfl,hI⟩
theorem qce.kp {M:Nat->Prop} {w w':World} {v:Value} {n:Nat} {z:Nat->Int} {x:Nat->TE} (h:qce M w v n z x) (he:Kp M w w'):qce M w' v n z x:=by
 obtain ⟨hn,hrow,hI⟩:=h;refine ⟨hn,?_,fun i hi=>(hI i hi).kp he⟩;rcases hrow with h | ⟨b,off,cap,hv,h1,h2,h3,h4⟩
 ·exact .inl h
 ·refine .inr ⟨b,off,cap,hv,h1,h2,⟨Nat.lt_of_lt_of_le h3.1 he.1,h3.2⟩,fun i hi=>?_⟩;rw [he.cell h3.1 h3.2,he.cell h3.1 h3.2,he.cell h3.1 h3.2,he.cell h3.1 h3.2,he.cell h3.1 h3.2,he.cell h3.1 h3.2];exact h4 i hi
theorem qce.ext {M:Nat->Prop} {w w':World} {v:Value} {n:Nat} {z:Nat->Int} {x:Nat->TE} (h:qce M w v n z x) (he:Ext w w'):qce M w' v n z x:=h.kp (Kp.of_ext he)
theorem qce.more {M M':Nat->Prop} {w:World} {v:Value} {n:Nat} {z:Nat->Int} {x:Nat->TE} (h:qce M w v n z x) (hm : ∀ g,M' g->M g∨w.heap.size<=g):qce M' w v n z x:=by
 obtain ⟨hn,hrow,hI⟩:=h;refine ⟨hn,?_,fun i hi=>(hI i hi).more hm⟩;rcases hrow with h | ⟨b,off,cap,hv,h1,h2,h3,h4⟩
 ·exact .inl h
 ·exact .inr ⟨b,off,cap,hv,h1,h2,⟨h3.1,fun k=>(hm b k).elim h3.2 (by omega)⟩,h4⟩
theorem qfF.x {M:Nat->Prop} {B:Nat} {w:World} {v:Value} {l:List Tm} (h:qfF M B w v l) : ∃ n z x,qce M w v n z x/\l=xls n z x /\ ∀ i,i<n->qbw M w (.bool (x i).b) (.slice (x i).a (x i).n (x i).p) (z i):=by
 obtain ⟨n,z,x,hO,hI,rfl,hn,hM⟩:=h;refine ⟨n,z,x,⟨hn,?_,fun i hi=>((hI i hi).more (fun b hb=>.inl (.inl hb))).toV⟩,rfl,fun i hi=>(hI i hi).more (fun b hb=>.inl (.inl hb))⟩;rcases hO with h | ⟨g,cap,F,rfl,hb,hB,h1,h2,hF⟩
 ·exact .inl ⟨⟨none,0,h.1,Nat.zero_le _⟩,h.2⟩
 ·have hnk:n*6<=cap*6:=Nat.mul_le_mul_right _ h1;refine .inr ⟨g,0,cap,rfl,h1,h2,⟨hB.lt,hM g rfl⟩,fun i hi=>?_⟩;simp only [Nat.zero_add];rw [hB.cell (by omega),hB.cell (by omega),hB.cell (by omega),hB.cell (by omega),hB.cell (by omega),hB.cell (by omega),hF _ (by omega),hF _ (by omega),hF _ (by omega),hF _ (by omega),hF _ (by omega),hF _ (by omega)];unfold tx;rw [qfL,qfK,qhr,qhq,qhp,qho];exact ⟨rfl,rfl,rfl,rfl,rfl,rfl⟩
theorem qce.form {M:Nat->Prop} {w:World} {v:Value} {n:Nat} {z:Nat->Int} {x:Nat->TE} (h:qce M w v n z x) : ∃ a cap,v = .slice a n cap:=by
 obtain ⟨_,h | ⟨b,off,cap,rfl,_⟩,_⟩:=h
 ·obtain ⟨⟨_,_,rfl,_⟩,rfl⟩:=h;exact ⟨_,_,rfl⟩
 ·exact ⟨_,_,rfl⟩
theorem qce.at {M : Nat -> Prop} {w : World} {a : Option Addr} {cap n : Nat} {z : Nat -> Int} {x : Nat -> TE} (h : qce M w (.slice a n cap) n z x) (k : Nat) (hk : k < n) : ∃ b off, a = some ⟨b, off, none⟩ /\ n <= cap /\ cap <= maxLen /\ b < w.heap.size /\ w.cell? ⟨b, off + k * 6, none⟩ = some (.bool (x k).b) /\ w.cell? ⟨b, off + k * 6 + 1, none⟩ = some (.slice (x k).a (x k).n (x k).p) /\
  w.cell? ⟨b,off+k*6+2,none⟩=some (.int .i64 (x k).m.a)/\w.cell? ⟨b,off+k*6+3,none⟩=some (.int .i64 (x k).m.b)/\w.cell? ⟨b,off+k*6+4,none⟩=some (.int .i64 (x k).m.c)/\w.cell? ⟨b,off+k*6+5,none⟩=some (.int .i64 (x k).m.d):=by
 obtain ⟨_,h | ⟨b,off,cap',hv,h1,h2,h3,h4⟩,_⟩:=h
 ·omega
 ·simp only [Value.slice.injEq,true_and] at hv;obtain ⟨rfl,rfl⟩:=hv;exact ⟨b,off,rfl,h1,h2,h3.1,h4 k hk⟩
theorem qf8 (n:Nat) (z:Nat->Int) (x:Nat->TE):xls (n+1) z x=xls n z x ++ [(z n,(x n).m)]:=by
 unfold xls;rw [List.range_succ,List.map_append];rfl
theorem qeZ (n:Nat) (z:Nat->Int) (x:Nat->TE):(xls n z x).length=n:=by simp [xls]
end Go.Proofs.YtmcfpnmoklnhoaaGreat
