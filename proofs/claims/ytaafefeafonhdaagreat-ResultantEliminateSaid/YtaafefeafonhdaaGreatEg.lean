/- Eg -/
import Derived.Test.YtaafefeafonhdaaGreatEs
import Derived.Shelf.SlSortCmp.Whole1
import Derived.Laws.AppendOwnNone
import Derived.Deep.Upon
set_option linter.unusedVariables false
set_option maxRecDepth 100000
set_option maxHeartbeats 400000000
set_option linter.unusedSimpArgs false
namespace Go.Proofs.YtaafefeafonhdaaGreat
open Go.RowKit
def SL4(a b c d:Nat)(x y q r:PE)(w:World):Prop:=P4 w a x/\P4 w b y/\P4 w c q/\P4 w d r
theorem SL4.ext{a b c d:Nat}{x y q r:PE}{w w':World}(h:SL4 a b c d x y q r w)(he:Ext w w'):SL4 a b c d x y q r w':=⟨h.1.ext he,h.2.1.ext he,h.2.2.1.ext he,h.2.2.2.ext he⟩
def SL5(a b c d e:Nat)(x y q r v:PE)(w:World):Prop:=P4 w a x/\P4 w b y/\P4 w c q/\P4 w d r/\P4 w e v
theorem SL5.ext{a b c d e:Nat}{x y q r v:PE}{w w':World}(h:SL5 a b c d e x y q r v w)(he:Ext w w'):SL5 a b c d e x y q r v w':=⟨h.1.ext he,h.2.1.ext he,h.2.2.1.ext he,h.2.2.2.1.ext he,h.2.2.2.2.ext he⟩
end Go.Proofs.YtaafefeafonhdaaGreat
namespace Go.Proofs
open Go.Shelf
def Tryz.qDm:Go.Shelf.Ren:=⟨λ |6=>57|15=>95|14=>94|28=>128|29=>129|20=>120|21=>121|22=>122|23=>123|24=>124|25=>125|26=>126|27=>127|46=>149|47=>150|48=>151|49=>152|50=>153|57=>168|n=>n,λ |22=>22|24=>36|25=>95|3=>3|39=>127|0=>0|53=>140|55=>100|4=>4|46=>158|45=>157|50=>151|5=>5|9=>9|66=>179|70=>183|76=>191|77=>192|n=>n,λ |n=>n⟩
theorem Tryz.sortPoly:Go.Proofs.SlLaysF.n6 Tryz.prog Tryz.qDm:={
 mixed:=by kernel_rfl
 f6:=⟨Tryz.f57.name,by decide,Tryz.func57.trans (congrArg some (by kernel_rfl))⟩
 f14:=⟨Tryz.f94.name,by decide,Tryz.func94.trans (congrArg some (by kernel_rfl))⟩
 f15:=Tryz.func95.trans (congrArg some (by kernel_rfl))
 f20:=⟨Tryz.f120.name,by decide,Tryz.func120.trans (congrArg some (by kernel_rfl))⟩
 f21:=⟨Tryz.f121.name,by decide,Tryz.func121.trans (congrArg some (by kernel_rfl))⟩
 f22:=⟨Tryz.f122.name,by decide,Tryz.func122.trans (congrArg some (by kernel_rfl))⟩
 f23:=⟨Tryz.f123.name,by decide,Tryz.func123.trans (congrArg some (by kernel_rfl))⟩
 f24:=⟨Tryz.f124.name,by decide,Tryz.func124.trans (congrArg some (by kernel_rfl))⟩
 f25:=⟨Tryz.f125.name,by decide,Tryz.func125.trans (congrArg some (by kernel_rfl))⟩
 f26:=⟨Tryz.f126.name,by decide,Tryz.func126.trans (congrArg some (by kernel_rfl))⟩
 f27:=⟨Tryz.f127.name,by decide,Tryz.func127.trans (congrArg some (by kernel_rfl))⟩
 f28:=Tryz.func128.trans (congrArg some (by kernel_rfl))
 f29:=Tryz.func129.trans (congrArg some (by kernel_rfl))
 f46:=⟨Tryz.f149.name,by decide,Tryz.func149.trans (congrArg some (by kernel_rfl))⟩
 f47:=Tryz.func150.trans (congrArg some (by kernel_rfl))
 f48:=Tryz.func151.trans (congrArg some (by kernel_rfl))
 f49:=⟨Tryz.f152.name,by decide,Tryz.func152.trans (congrArg some (by kernel_rfl))⟩
 f50:=⟨Tryz.f153.name,by decide,Tryz.func153.trans (congrArg some (by kernel_rfl))⟩
 f57:=⟨Tryz.f168.name,by decide,Tryz.func168.trans (congrArg some (by kernel_rfl))⟩
 t0:=Tryz.underlying0
 a0:=Tryz.isAgg0
 z0:=Tryz.sizeOf0
 v0:=Tryz.zeroValue0
 t3:=Tryz.underlying3
 a3:=Tryz.isAgg3
 z3:=Tryz.sizeOf3
 v3:=Tryz.zeroValue3
 t4:=Tryz.underlying4
 a4:=Tryz.isAgg4
 z4:=Tryz.sizeOf4
 v4:=Tryz.zeroValue4
 t5:=Tryz.underlying5
 a5:=Tryz.isAgg5
 z5:=Tryz.sizeOf5
 v5:=Tryz.zeroValue5
 t9:=Tryz.underlying9
 a9:=Tryz.isAgg9
 z9:=Tryz.sizeOf9
 v9:=Tryz.zeroValue9
 t22:=Tryz.underlying22
 a22:=Tryz.isAgg22
 z22:=Tryz.sizeOf22
 v22:=Tryz.zeroValue22
 a24:=Tryz.isAgg36
 z24:=Tryz.sizeOf36
 t25:=Tryz.underlying95
 a25:=Tryz.isAgg95
 z25:=Tryz.sizeOf95
 v25:=Tryz.zeroValue95
 t39:=Tryz.underlying127
 a39:=Tryz.isAgg127
 z39:=Tryz.sizeOf127
 v39:=Tryz.zeroValue127
 t45:=Tryz.underlying157
 a45:=Tryz.isAgg157
 z45:=Tryz.sizeOf157
 v45:=Tryz.zeroValue157
 t46:=Tryz.underlying158
 a46:=Tryz.isAgg158
 z46:=Tryz.sizeOf158
 v46:=Tryz.zeroValue158
 t50:=Tryz.underlying151
 a50:=Tryz.isAgg151
 z50:=Tryz.sizeOf151
 v50:=Tryz.zeroValue151
 t53:=Tryz.underlying140
 a53:=Tryz.isAgg140
 z53:=Tryz.sizeOf140
 v53:=Tryz.zeroValue140
 t55:=Tryz.underlying100
 a55:=Tryz.isAgg100
 z55:=Tryz.sizeOf100
 v55:=Tryz.zeroValue100
 t66:=Tryz.underlying179
 a66:=Tryz.isAgg179
 z66:=Tryz.sizeOf179
 v66:=Tryz.zeroValue179
 t70:=Tryz.underlying183
 a70:=Tryz.isAgg183
 z70:=Tryz.sizeOf183
 v70:=Tryz.zeroValue183
 t76:=Tryz.underlying191
 a76:=Tryz.isAgg191
 z76:=Tryz.sizeOf191
 v76:=Tryz.zeroValue191
 t77:=Tryz.underlying192
 a77:=Tryz.isAgg192
 z77:=Tryz.sizeOf192
 v77:=Tryz.zeroValue192}
end Go.Proofs
namespace Go.Proofs.YtaafefeafonhdaaGreat
open Go.RowKit
theorem Gr.gZ{w w':World}(h:Ext w w')(hd:w.drawn<=w'.drawn):Gr w w':=by
 refine⟨w'.drawn-w.drawn,w'.heap.extract w.heap.size w'.heap.size,?_⟩
 have h1:w'.heap=w.heap++w'.heap.extract w.heap.size w'.heap.size:=by
  have hs:=h.size;apply Array.ext_getElem?;intro k;rw[Array.getElem?_append]
  by_cases hk:k<w.heap.size
  ·rw[av hk];exact h.heap hk
  ·rw[aj hk,Array.getElem?_extract]
   by_cases mH:k<w'.heap.size
   ·rw[av (by omega)];congr 1;omega
   ·rw[aj (by omega)];exact Array.getElem?_eq_none (by omega)
 obtain⟨hp,dr⟩:∃q,q=w'.drawn-w.drawn:=⟨_,rfl⟩;have h2:=Below.os h;have h3:=Below.tape h;have h4:=Below.output h;unfold Go.Sort.grow World.drewN;cases w';cases w;simp only at h1 h2 h3 h4 hd⊢;subst h2 h3 h4;rw[World.mk.injEq];exact⟨h1,rfl,by omega,rfl,rfl⟩
theorem qbu:∀a b:List Tm,fI a b<0\/a=b\/fI b a<0
 |[],[]=>.inr (.inl rfl)
 |[],_::_=>.inl (by simp[fI])
 |_::_,[]=>.inr (.inr (by simp[fI]))
 |s::a,t::b=>by
  simp only[fI]
  by_cases h0:nM s t=0
  ·obtain rfl:=(Ct s t).1 h0;rw[av h0,av h0];rcases qbu a b with h|rfl|h
   ·exact .inl h
   ·exact .inr (.inl rfl)
   ·exact .inr (.inr h)
  ·have h1:nM t s≠0:=λe=>h0 ((Ct s t).2 ((Ct t s).1 e).symm);rw[aj h0,aj h1,QN,QN];have hne:s≠t:=λe=>h0 ((Ct s t).2 e);unfold Lg;rcases Mo.Oz s.2 t.2 with h|h|h
   ·exact .inl (.inl h)
   ·rcases Int.lt_trichotomy s.1 t.1 with k|k|k
    ·exact .inl (.inr ⟨h,k⟩)
    ·exact absurd (Prod.ext k h) hne
    ·exact .inr (.inr (.inr ⟨h.symm,k⟩))
   ·exact .inr (.inr (.inl h))
def JY{m:Nat}(y:Nat->SE)(i j:Fin (m+1)):Int:=fI (norm (y i).l) (norm (y j).l)
theorem qDU{m:Nat}(y:Nat->SE):Go.Sort.SWO (Go.Proofs.ltOf (JY (m:=m) y)) where
 irrefl x:=by
  unfold Go.Proofs.ltOf JY;rw[(JZ _ _).2 rfl];rfl
 trans a b c h1 h2:=by
  unfold Go.Proofs.ltOf JY at*;simp only[decide_eq_true_eq]at*;exact QM h1 h2
 ntrans a b c h1 h2:=by
  unfold Go.Proofs.ltOf JY at*;simp only[decide_eq_false_iff_not]at*;intro h3;rcases qbu (norm (y a).l) (norm (y b).l)with k|k|k
  ·exact h1 k
  ·rw[k]at h3;exact h2 h3
  ·exact h2 (QM k h3)
theorem qkr{α:Type}[Inhabited α](enc:α->Value){w:World}{g:Nat}(hg:g<w.heap.size)(q:Nat)(d:Array α)(os:Array Obj):w.grownBy (Go.Proofs.sortWorld enc w g 0 q d os) (some g):=by
 refine⟨rfl,rfl,rfl,?_,λk hk hne=>?_⟩
 ·unfold Go.Proofs.sortWorld;rw[Go.Sort.size_grow,Go.Sort.size_putRow,Go.Sort.heap_ahead];omega
 ·unfold Go.Proofs.sortWorld;rw[Go.Sort.heap_grow_old _ _ (by rw[Go.Sort.size_putRow,Go.Sort.heap_ahead];exact hk)];show(w.heap.modify g _)[k]?=_;rw[Array.getElem?_modify,aj (λe=>hne (by rw[e]))]
theorem qt1{α:Type}[Inhabited α](enc:α->Value){w:World}{g cap:Nat}{t:TypeId}{F:Nat->Value}(hB:au w g t cap F)(q:Nat)(d:Array α)(os:Array Obj):au (Go.Proofs.sortWorld enc w g 0 q d os) g t cap (λj=>if j<d.size then enc d[j]! else F j):=by
 obtain⟨cur,hg,hs,hc⟩:=hB;have hlt:g<w.heap.size:=(Array.getElem?_eq_some_iff.1 hg).1;refine⟨Go.Sort.putCells enc 0 d cur,?_,by simp[Go.Sort.putCells,hs],λi hi=>?_⟩
 ·unfold Go.Proofs.sortWorld;rw[Go.Sort.heap_grow_old _ _ (by rw[Go.Sort.size_putRow,Go.Sort.heap_ahead];exact hlt)];show(w.heap.modify g _)[g]?=_;simp[Array.getElem?_modify,hg,Go.Sort.onCells]
 ·simp only[Go.Sort.putCells,Array.getElem?_mapIdx,hc i hi,Option.map_some,bu,true_and,Nat.zero_add,Nat.sub_zero]
theorem qDo(T:List Tm->Prop)(n:Nat)(hn:n<4611686018427387904):qbb T n:=by
 cases n with
 |zero=>
  intro M w g cap y hM kH hc hr hT;exact qDn [] 0 (by omega) M w g cap y hM kH hc hr (λi hi=>absurd hi (Nat.not_lt_zero _))
 |succ m=>
 intro M w g cap y hM kH hc hr hT;obtain⟨F,hB,hF,hP⟩:=hr;have gP:=hB.lt
 have hd:(Array.ofFn (n:=m+1) λi=>i).size=m+1:=by simp
 have hget:∀j(hj:j<m+1),(Array.ofFn (n:=m+1) λi=>i)[j]! =⟨j,hj⟩:=λj hj=>by
  rw[Array.getElem!_eq_getD,Array.getD_eq_getD_getElem?];simp[hj]
 have qdF:Go.Proofs.CmpLays1 Tryz.prog 58 #[] (λi:Fin (m+1)=>sv (y i)) (JY y) g 0 (Array.ofFn (n:=m+1) λi=>i).size w:=by
  intro q os dk _ i j;have lu:=qkr (λi:Fin (m+1)=>sv (y i)) gP q dk os
  have hk:Kp M w (Go.Proofs.sortWorld (λi:Fin (m+1)=>sv (y i)) w g 0 q dk os):=Kp.grown lu λk hk=>by cases hk;exact kH
  have h1:=qkm M (y i) (y j) _ (hM.size hk.1) ((hP i i.2).1.kp hk) ((hP j j.2).1.kp hk) (hP i i.2).2 (hP j j.2).2;refine(qt6 h1 λe w' h=>by rw[h.1];intro hh;cases hh).mono ?_;rintro e w' ⟨⟨h2,h3⟩,h4⟩;obtain⟨q',os',h5⟩:=Gr.gZ h3 h4;exact⟨h2,q',os',h5⟩
 have hH:Go.Sort.Holds (λi:Fin (m+1)=>sv (y i)) w g 0 (Array.ofFn (n:=m+1) λi=>i):=λj hj=>by
  have hj':j<m+1:=by simpa using hj
  rw[Nat.zero_add,hB.cell (by omega),hF j hj',hget j hj'];exact⟨rfl,hB.frozen j⟩
 have hs:=Go.Proofs.Any.slices_SortFunc Tryz.sortPoly (λi:Fin (m+1)=>sv (y i)) (λ_=>rfl) (JY y) (qDU y) 58 #[] g 0 cap (Array.ofFn (n:=m+1) λi=>i) w (λargs w=>by kernel_rfl) qdF hH gP (by rw[hd];exact hn);rw[hd]at hs;refine hs.mono ?_;rintro e w' ⟨rfl,d',q,os,hp,WS,rfl⟩
 have hds:d'.size=m+1:=by rw[hp.1,hd]
 have lu:=qkr (λi:Fin (m+1)=>sv (y i)) gP q d' os
 have hk:Kp M w (Go.Proofs.sortWorld (λi:Fin (m+1)=>sv (y i)) w g 0 q d' os):=Kp.grown lu λk hk=>by cases hk;exact kH
 refine⟨rfl,λi=>y d'[i]!,⟨_,qt1 _ hB q d' os,λj hj=>by rw[av (by omega)],λi hi=>⟨(hP d'[i]! (d'[i]!).2).1.kp hk,(hP d'[i]! (d'[i]!).2).2⟩⟩,⟨λi hi=>⟨d'[i]!,(d'[i]!).2,rfl⟩,λj hj=>?_⟩,λi j eD hj=>?_,lu⟩
 ·have Ht:=hp.2.2;rw[show(Array.ofFn (n:=m+1) λi=>i).extract 0 (m+1)=Array.ofFn (n:=m+1) λi=>i by simp,show d'.extract 0 (m+1)=d' by simp[<-hds]]at Ht
  have hof:(Array.ofFn (n:=m+1) λi=>i).toList[j]?=some ⟨j,hj⟩:=by rw[Array.getElem?_toList,Array.getElem?_ofFn,dif_pos hj]
  have pQ:(⟨j,hj⟩:Fin (m+1))∈d'.toList:=Ht.mem_iff.2 (List.mem_of_getElem? hof);obtain⟨i,hi,he⟩:=List.getElem_of_mem pQ
  have hi':i<d'.size:=by simpa using hi
  refine⟨i,by omega,?_⟩;show y d'[i]! =y j;rw[getElem!_pos d' i hi',show d'[i]=⟨j,hj⟩ by simpa using he]
 ·have h1:=WS i j (bu _) eD hj;unfold Go.Proofs.ltOf JY at h1;simp only[decide_eq_false_iff_not]at h1;rcases qbu (norm (y d'[i]!).l) (norm (y d'[j]!).l)with k|k|k
  ·exact Int.le_of_lt k
  ·rw[k];exact Int.le_of_eq ((JZ _ _).2 rfl)
  ·exact absurd k h1
def CnL(c:Nat)(l:List Tm):Prop:=∀s∈l,s.1≠0->1<=c/\∀k,s.2.get k<=(c:Int)-1
def Yz(n:Nat)(M:Nat->Prop)(w:World)(x:PE)(l:List Tm):Prop:=BT M w x l/\CnL n l
theorem Yz.ext{n:Nat}{M:Nat->Prop}{w w':World}{x:PE}{l:List Tm}(h:Yz n M w x l)(he:Ext w w'):Yz n M w' x l:=⟨h.1.ext he,h.2⟩
theorem qBL(a b r:List Tm)(m:Mo):aH (aC (a++smul (-1) b) r) m=aH (aC a r) m-aH (aC b r) m:=by
 rw[Ir,iJ]
 have:∀C:List Tm,aH (aC (smul (-1) C) r) m= -aH (aC C r) m:=by
  intro C
  induction C with
  |nil=>rfl
  |cons s C ih=>
   show aH (aC ((-1*s.1,s.2)::smul (-1) C) r) m=_;rw[rX,rX,ih];simp only;rw[Int.mul_assoc];omega
 rw[this];omega
theorem qp4{a b r:List Tm}(ha:NN a)(hb:NN b)(hr:NN r)(hz:¬af r [])(h:af (aC a r) (aC b r)):af a b:=λm=>by
 refine gQ λhc=>?_
 have hn:NN (a++smul (-1) b):=λq hq=>by rw[iJ,mO,ha q hq,hb q hq];rfl
 refine Tw hn hr (λhs=>hc ?_) hz λq=>?_
 ·have:=hs m;rw[iJ,mO]at this;have h0:aH ([]:List Tm) m=0:=rfl;omega
 ·rw[qBL,h q];show _=(0:Int);omega
def YN(W:World)(q r s t:PE)(er xr:Int):Prop:=er=xr/\∃ql rl,aG M0 W 4 q ql/\aG M0 W 4 r rl/\aG M0 W 4 s ql/\aG M0 W 4 t rl
theorem YN.ext{W W':World}{q r s t:PE}{er xr:Int}(h:YN W q r s t er xr)(he:Ext W W'):YN W' q r s t er xr:=by
 obtain⟨h1,ql,rl,h2,h3,h4,h5⟩:=h;exact⟨h1,ql,rl,h2.ext he,h3.ext he,h4.ext he,h5.ext he⟩
def YQ(W:World)(u v:PE)(er xr:Int):Prop:=er=xr/\∃ul vl,aG M0 W 4 u ul/\aG M0 W 4 v vl/\af ul vl
theorem YQ.ext{W W':World}{u v:PE}{er xr:Int}(h:YQ W u v er xr)(he:Ext W W'):YQ W' u v er xr:=by
 obtain⟨h1,ul,vl,h2,h3,h4⟩:=h;exact⟨h1,ul,vl,h2.ext he,h3.ext he,h4⟩
def QD(a b c d e:Nat)(x y q r v:PE)(w:World):Prop:=P4 w a x/\P4 w b y/\P4 w c q/\P4 w d r/\P4 w e v
theorem QD.ext{a b c d e:Nat}{x y q r v:PE}{w w':World}(h:QD a b c d e x y q r v w)(he:Ext w w'):QD a b c d e x y q r v w':=⟨h.1.ext he,h.2.1.ext he,h.2.2.1.ext he,h.2.2.2.1.ext he,h.2.2.2.2.ext he⟩
def SG4(a b c d:Nat)(x y q r:PE)(w:World):Prop:=P4 w a x/\P4 w b y/\P4 w c q/\P4 w d r
theorem SG4.ext{a b c d:Nat}{x y q r:PE}{w w':World}(h:SG4 a b c d x y q r w)(he:Ext w w'):SG4 a b c d x y q r w':=⟨h.1.ext he,h.2.1.ext he,h.2.2.1.ext he,h.2.2.2.ext he⟩
def qaU(b1 b2 b3 b4 b5 b6 b7 b8 b9 Vm:Nat)(x1 x2 x3 x4 x5 x6 x7 x8 x9 Yu:PE)(w:World):Prop:=QD b1 b2 b3 b4 b5 x1 x2 x3 x4 x5 w/\QD b6 b7 b8 b9 Vm x6 x7 x8 x9 Yu w
theorem qaU.ext{b1 b2 b3 b4 b5 b6 b7 b8 b9 Vm:Nat}{x1 x2 x3 x4 x5 x6 x7 x8 x9 Yu:PE}{w w':World}(h:qaU b1 b2 b3 b4 b5 b6 b7 b8 b9 Vm x1 x2 x3 x4 x5 x6 x7 x8 x9 Yu w)(he:Ext w w'):qaU b1 b2 b3 b4 b5 b6 b7 b8 b9 Vm x1 x2 x3 x4 x5 x6 x7 x8 x9 Yu w':=⟨h.1.ext he,h.2.ext he⟩
noncomputable def Iw(l r:List Tm):List Tm:=open Classical in if h:¬af r []/\Dv r l then norm h.2.choose else[]
theorem qqz{l r q:List Tm}(hq:NN q)(hr:NN r)(hz:¬af r [])(h:af (aC q r) l):Iw l r=norm q:=by
 have hd:Dv r l:=⟨q,hq,h⟩;unfold Iw;rw[dif_pos ⟨hz,hd⟩];have hs:=hd.choose_spec;exact(qp4 hs.1 hq hr hz (hs.2.trans h.symm)).norm
theorem qqy{l r:List Tm}(h:af r []\/¬Dv r l):Iw l r=[]:=by
 unfold Iw;rw[dif_neg];rintro⟨h1,h2⟩;exact h.elim h1 λh=>h h2
def qaI(M:Nat->Prop)(w:World)(q:List Tm)(A:Nat)(e:Ending)(w':World):Prop:=∃v:PE,e=.returned (.agg (ag v))/\aG M w' 4 v q/\aF (aB q)<=A/\Ext w w'
theorem qCe{M:Nat->Prop}{w':World}{l r:List Tm}{A:Nat}{v:PE}{er:Int}(hr:NN r)(h:(er=2/\af r []/\v=PE.z)\/(er=0/\¬af r []/\∃q,aG M w' 4 v q/\af (aC q r) l/\aF (aB q)<=A)\/(er=3/\v=PE.z/\¬af r []/\¬Dv r l)):aG M w' 4 v (Iw l r)/\aF (aB (Iw l r))<=A:=by
 rcases h with⟨_,h1,rfl⟩|⟨_,h1,q,h2,h3,h4⟩|⟨_,rfl,h1,h2⟩
 ·rw[qqy (.inl h1)];exact⟨CR.zero _ _ _,bu _⟩
 ·rw[qqz h2.nn hr h1 h3];exact⟨h2.bP (o6 h2.nn).symm,aK (fu (Lr q)) h4⟩
 ·rw[qqy (.inr h2)];exact⟨CR.zero _ _ _,bu _⟩
theorem di.qt{M:Nat->Prop}{w w':World}{q:List Tm}{e:Ending}{A:Nat}(h:di M w 4 q e w')(hb:aF (aB q)<=A):qaI M w q A e w':=by
 obtain⟨y,e1,c,x⟩:=h;exact⟨y,e1,c,hb,x⟩
theorem qAO(w:World)(x:PE):eF (w.alloc (.cells (ag x) 42)) w.heap.size 0 x:=by
 have hB:=au.aO w (ag x) 42 4 rfl;exact⟨hB.cell (i:=0) (by omega),hB.cell (i:=1) (by omega),hB.cell (i:=2) (by omega),hB.cell (i:=3) (by omega)⟩
theorem qDF(M:Nat->Prop)(l r:List Tm)(x y:PE)(AA:Nat)(w:World)(hM:Mb M w)(h:PI M w x l)(hy:PI M w y r)(hr:NN r)(hC:∀(M':Nat->Prop)(W:World),Mb M' W->PI M' W x l->PI M' W y r->Calls Tryz.prog 65 #[.agg (ag x),.agg (ag y)] W (MJ M' W l r AA)):
 Calls Tryz.prog 148 #[.agg (ag x),.agg (ag y)] w (qaI M w (Iw l r) AA):=by
 obtain⟨hE,⟨x0,x1,x2,x3⟩,⟨y0,y1,y2,y3⟩,bJ,dz⟩:=yI hM x y;have h2:=(h.more (M':=Mx M w.heap.size (w.heap.size+3)) (Mx.more (aA _))).ext hE;have ui:=(hy.more (M':=Mx M w.heap.size (w.heap.size+3)) (Mx.more (aA _))).ext hE;have CT:=ae (hC _ _ dz h2 ui);have HQ:Hid (NN r):=hr;have HB:=ae bJ;have HE:=ae hE;clear h2 ui h hy hr hC dz bJ hE hM
 go_enter Tryz.func148,Tryz.ntmps148
 go_wp2_with (fail);refine CT.out.mono ?_;rintro e w1 ⟨v,er,rfl,hc,ah⟩;obtain⟨hq,hqd⟩:=qCe HQ.out hc;have eZ:=(ai w1).alloc (.cells (ag v) 42);obtain⟨b0,b1,b2,b3⟩:=qAO w1 v;have hq2:=hq.ext eZ;have Me:=ae hqd;have nJ:=ae (ah.trans eZ);generalize gT:w1.alloc (.cells (ag v) 42)=W2 at*;have F8:=ae gT;clear CT hc ah hq hqd eZ gT x0 x1 x2 x3 y0 y1 y2 y3
 go_upto_region 2 with(fail)
 rw[F8.out];generalize w1.heap.size=g1 at*;clear F8;obtain⟨⟨q0,q1,q2,q3⟩,⟨f0,f1,f2,f3⟩,⟨r0,r1,r2,r3⟩,HF⟩:=gI (M:=M) (w:=w) (HB.out.ext nJ.out) (Mx.at (by omega)) (by omega) (HE.out.trans nJ.out) hq2 Mx.sub;have HR:=ae (di.qt HF.out Me.out);clear HF hq2;go_wp2;exact aV (v:=.agg (ag v)) (by simp[results,Tryz.results148,go_sem,r0,r1,r2,r3]) rfl HR.out
theorem qDE(C G:Nat)(M:Nat->Prop)(l r:List Tm)(x y:PE)(B A:Nat)(w:World)(hM:Mb M w)(h:PI M w x l)(hy:PI M w y r)(hr:NN r)(hB:bE B l)(hC:bE C r)(hA:aF (aB l)<=A)(hG:aF (aB r)<=G)(hO:qW C 4 B)(hS:A+qX C 4 B*(G+2)<=549755813888):
 Calls Tryz.prog 148 #[.agg (ag x),.agg (ag y)] w (qaI M w (Iw l r) (A+qX C 4 B*(G+2))):=qDF M l r x y _ w hM h hy hr λM' W h1 h2 h3=>qqi C G M' l r x y B A W h1 h2 h3 hB hC hA hG hO hS
theorem dJ.neg{L n:Nat}{l:List Tm}(h:dJ L (cB l) n):dJ L l n:=
 ⟨λm hm=>h.1 m (by rw[zt];omega),h.2.imp id λ⟨m,h1,h2⟩=>⟨m,by rw[zt]at h1;omega,h2⟩⟩
def qaK(M:Nat->Prop)(w:World)(f g:List Tm)(J:Nat)(e:Ending)(w':World):Prop:=∃(y:PE)(n V:Nat),e=.returned (.agg (ag y))/\dJ J g n/\Ck J f n V/\aG M w' 4 y (ve J n V f (cB g))/\Ext w w'
def rW(g:Nat)(x y:PE)(w:World):Prop:=P4 w g x/\P4 w (g+1) y
theorem rW.ext{g:Nat}{x y:PE}{w w':World}(h:rW g x y w)(he:Ext w w'):rW g x y w':=⟨h.1.ext he,h.2.ext he⟩
theorem qfc(w:World):Ext w (w.alloc (.cells zA 42))/\au (w.alloc (.cells zA 42)) w.heap.size 42 4 (arr zA):=⟨(ai _).alloc _,au.aO w zA 42 4 rfl⟩
theorem qt0{w:World}{g:Nat}{t:TypeId}{f:Nat->Value}(h:au w g t 4 f)(x:PE):au (aD w g 0 (.int .i64 x.lv) (.bool x.b) (.slice x.a x.n x.p) (.slice x.ka x.kn x.kp)) g t 4 (arr (ag x)):=
 (h.aD 0 (.int .i64 x.lv) (.bool x.b) (.slice x.a x.n x.p) (.slice x.ka x.kn x.kp)).congr λi hi=>match i,hi with
  |0,_=>D6 f 0 _ _ _ _
  |1,_=>D7 f 0 _ _ _ _
  |2,_=>D8 f 0 _ _ _ _
  |3,_=>D9 f 0 _ _ _ _
theorem qDH(T:Nat)(M:Nat->Prop)(f g:List Tm)(x y:PE)(J B C A D:Nat)(w:World)(h1:1<=J)(h4:J<=4)(hM:Mb M w)(h:PI M w x f)(k:PI M w y g)(nf:NN f)(ng:NN g)(hz:¬af g [])(hB:bE B f)(hC:bE C g)(jM:C+1<=1099511627776)(hA:aF (aB f)<=A)(hD:aF (aB g)<=D)(Ai:D+1<=1099511627776)(hN:YM T B C A D)(hT:∀n V:Nat,dJ J g n->Ck J f n V->V<=T):
 Calls Tryz.prog 147 #[.agg (ag x),.agg (ag y),.int .i64 (J:Int)] w (qaK M w f g J):=by
 obtain⟨hE,hX,hY,uP,dz⟩:=yI hM x y;have h2:=(h.more (M':=Mx M w.heap.size (w.heap.size+3)) (Mx.more (aA _))).ext hE;have k2:=(k.more (M':=Mx M w.heap.size (w.heap.size+3)) (Mx.more (aA _))).ext hE;have kH:Mx M w.heap.size (w.heap.size+3) (w.heap.size+2):=Mx.at (by omega);have hMs:∀b,M b->Mx M w.heap.size (w.heap.size+3) b:=Mx.sub;generalize hW:((w.alloc (.cells (ag x) 42)).alloc (.cells (ag y) 42)).alloc (.cells zA 42)=W at*;generalize Mx M w.heap.size (w.heap.size+3)=M' at*;have CN:Hid (∀(Mk:Nat->Prop)(wk:World),Ext W wk->Mb Mk wk->(∀b,Mk b->M' b\/W.heap.size<=b)->Calls Tryz.prog 64 #[.agg (ag y)] wk (di Mk wk 4 (cB g))):=λMk wk he hm hs=>qqL Mk y g C wk hm ((k2.more hs).ext he) (by omega) hC jM
 have CR:Hid (∀(Mk:Nat->Prop)(wk:World)(u:PE),Ext W wk->Mb Mk wk->(∀b,Mk b->M' b\/W.heap.size<=b)->aG Mk wk 4 u (cB g)->Calls Tryz.prog 167 #[.agg (ag x),.agg (ag u),.int .i64 (J:Int)] wk λe w'=>∃(y:PE)(er:Int)(n V:Nat),e=.returned (.tuple #[.agg (ag y),.int .i64 er])/\aG Mk w' 4 y (ve J n V f (cB g))/\dJ J g n/\Ck J f n V/\Ext wk w'):=λMk wk u he hm hs hu=>by
  refine(qBU T Mk x u f (cB g) (J:Int) B C A D wk hm ((h2.more hs).ext he) hu.pi nf (oq ng) hB (OE hC) hA (by rw[OG];exact hD) hN λJ' n V e hd hs=>by(obtain rfl:J=J':=by omega);exact hT n V hd.neg hs).mono ?_;rintro e w' ⟨y',er,rfl,hr,Ky⟩;rcases hr with⟨h5,_⟩|⟨_,h5,_⟩|⟨J',n,V,e1,_,_,_,hd,lD,_,hc⟩
  ·exact absurd ⟨by omega,by omega⟩ h5
  ·exact absurd (λm=>by have:=h5 m;rw[zt]at this;simp only[aH]at this⊢;omega) hz
  ·have:J'=J:=by omega
   subst this;exact⟨y',er,n,V,rfl,hc,hd.neg,lD,Ky⟩
 have HS:Hid (rW w.heap.size x y W):=⟨hX,hY⟩;have jP:=ae uP;have HE:=ae hE;have iQ:=ae dz;have jm:=ae kH;have BN:=ae hMs;have HW:=ae hW;clear hE hX hY uP dz h2 k2 kH hMs hW hM h k nf ng hz hB hC jM hA hD Ai hN hT h1 h4
 go_enter Tryz.func147,Tryz.ntmps147
 go_upto_region 1 with(fail)
 rw[HW.out];obtain⟨gz,qG⟩:∃q,q=w.heap.size:=⟨_,rfl⟩;have Ej:=ae qG;rw[<-qG]at HS jP jm⊢;clear qG HW;have hS:rW gz x y W.drew:=HS.out.ext (ai W).drew;have uQ:=(ai W).drew;have dQ:Hid (Mb M' W.drew):=iQ.out.ext uQ;have qii:Hid (∀b,M' b->M' b\/W.heap.size<=b):=λb h=>.inl h;refine fB (rW gz x y) 10 hS λhHeld=>?_;clear hS;generalize W.drew=wd at*;have iV:=ae uQ;clear uQ;refine bH [0,1,3] ?_;(iterate 3 refine bG ?_);refine bI ?_;refine oC 2 8 ?_ ?_<;>intro K hK
 focus
  go_simp;refine(CN.out M' wd iV.out dQ.out qii.out).mono ?_;rintro e v1 ⟨u,rfl,hu,d1⟩;go_wp2_with (fail)
  try clear ak
  refine ny hK (hHeld.ext (d1)) λak=>?_;clear hK K;refine oC 4 8 ?_ ?_<;>intro K hK
  focus
   go_simp;refine(CR.out M' v1 u (iV.out.trans d1) (dQ.out.ext d1) qii.out hu).mono ?_;rintro e v2 ⟨z,er,n,V,rfl,hz,wm,iw,d2⟩;go_wp2_with (fail)
   try clear ak
   refine ny hK (hHeld.ext (d1.trans d2)) λak=>?_;clear hK K;refine bH [5,6,7] ?_;(iterate 3 refine bG ?_);refine bI ?_;refine aI 8 λK hK=>?_;go_simp;obtain⟨dA,ll⟩:=qfc v2
   try clear ak
   refine ny hK (hHeld.ext ((d1.trans d2).trans dA)) λak=>?_;clear hK K;have Ol:=(d1.trans d2).size;have Hz:v2.heap.size<(v2.alloc (.cells zA 42)).heap.size:=ll.lt;generalize v2.alloc (.cells zA 42)=vF at*;have Ig:aG (λb=>M' b\/b=v2.heap.size) vF 4 z (ve J n V f (cB g)):=(hz.more (λb hb=>hb.imp id λh=>by omega)).ext dA;have EF:=(d1.trans d2).trans dA;generalize v2.heap.size=gq at*;clear hz hu d1 d2 dA Hz
  rotate_left
  focus
   go_simp;obtain⟨dA,ll⟩:=qfc v1
   try clear ak
   refine ny hK (hHeld.ext ((d1).trans dA)) λak=>?_;clear hK K;have Ol:=(d1).size;have Hz:v1.heap.size<(v1.alloc (.cells zA 42)).heap.size:=ll.lt;generalize v1.alloc (.cells zA 42)=v2 at*
   have Kh:Mb (λb=>M' b\/b=v1.heap.size) v2:=λb hb=>hb.elim (λh=>((dQ.out.ext d1).ext dA) b h) λh=>by rw[h];exact Hz
   replace hu:aG (λb=>M' b\/b=v1.heap.size) v2 4 u (cB g):=(hu.more (λb hb=>hb.imp id λh=>by omega)).ext dA
   have H6:∀b,(M' b\/b=v1.heap.size)->M' b\/W.heap.size<=b:=λb hb=>hb.imp id λh=>by have:=iV.out.size;omega
   generalize v1.heap.size=gq at*;refine aI 4 λK hK=>?_;go_simp;refine(CR.out (λb=>M' b\/b=gq) v2 u ((iV.out.trans d1).trans dA) Kh H6 hu).mono ?_;rintro e vF ⟨z,er,n,V,rfl,hz,wm,iw,d2⟩;go_wp2_with (fail)
   try clear ak
   refine ny hK (hHeld.ext ((d1.trans dA).trans d2)) λak=>?_;clear hK K;refine bH [5,6,7] ?_;(iterate 3 refine bG ?_);refine bI ?_;have Ig:=hz;have EF:=(d1.trans dA).trans d2;replace ll:=ll.ext d2;clear hz hu d1 d2 dA Hz Kh H6
 rotate_left
 rotate_left
 focus
  go_simp;obtain⟨dA,ll⟩:=qfc wd
  try clear ak
  refine ny hK (hHeld.ext (((ai wd)).trans dA)) λak=>?_;clear hK K;have Ol:=((ai wd)).size;have Hz:wd.heap.size<(wd.alloc (.cells zA 42)).heap.size:=ll.lt;generalize wd.alloc (.cells zA 42)=v0 at*
  have Kh:Mb (λb=>M' b\/b=wd.heap.size) v0:=λb hb=>hb.elim (λh=>(dQ.out.ext dA) b h) λh=>by rw[h];exact Hz
  have H6:∀b,(M' b\/b=wd.heap.size)->M' b\/W.heap.size<=b:=λb hb=>hb.imp id λh=>by have:=iV.out.size;omega
  obtain⟨gq,hgq⟩:∃q,q=wd.heap.size:=⟨_,rfl⟩;rw[<-hgq]at Kh H6 ll Hz⊢
  replace Ol:wd.heap.size<=gq:=by omega
  clear hgq;refine aI 2 λK hK=>?_;go_simp;refine(CN.out (λb=>M' b\/b=gq) v0 (iV.out.trans dA) Kh H6).mono ?_;rintro e v1 ⟨u,rfl,hu,d1⟩;go_wp2_with (fail)
  try clear ak
  refine ny hK (hHeld.ext (dA.trans d1)) λak=>?_;clear hK K;refine aI 4 λK hK=>?_;go_simp;refine(CR.out (λb=>M' b\/b=gq) v1 u ((iV.out.trans dA).trans d1) (Kh.ext d1) H6 hu).mono ?_;rintro e vF ⟨z,er,n,V,rfl,hz,wm,iw,d2⟩;go_wp2_with (fail)
  try clear ak
  refine ny hK (hHeld.ext ((dA.trans d1).trans d2)) λak=>?_;clear hK K;refine bH [5,6,7] ?_;(iterate 3 refine bG ?_);refine bI ?_;have Ig:=hz;have EF:=(dA.trans d1).trans d2;replace ll:=(ll.ext d1).ext d2;clear hz hu d1 d2 dA Hz Kh H6
 all_goals
  have zN:Hid (au vF (gz+2) 42 4 (arr zA)):=jP.out.ext (iV.out.trans EF);have bA:=qt0 ll z;have aT:Kp (λb=>M' b\/b=gq) vF (aD vF gq 0 (.int .i64 z.lv) (.bool z.b) (.slice z.a z.n z.p) (.slice z.ka z.kn z.kp)):=Kp.aD (.inr rfl) _ _ _ _ _
  have hle:wd.heap.size<=gq:=by omega
  have dN:=EF.aD hle 0 (.int .i64 z.lv) (.bool z.b) (.slice z.a z.n z.p) (.slice z.ka z.kn z.kp);have hz1:=Ig.kp aT;obtain⟨q0,q1,q2,q3⟩:vF.cell? ⟨gq,0,none⟩=some (.int .i64 0)/\vF.cell? ⟨gq,1,none⟩=some (.bool false)/\vF.cell? ⟨gq,2,none⟩=some (.slice none 0 0)/\vF.cell? ⟨gq,3,none⟩=some (.slice none 0 0):=⟨ll.cell (i:=0) (by omega),ll.cell (i:=1) (by omega),ll.cell (i:=2) (by omega),ll.cell (i:=3) (by omega)⟩;obtain⟨f0,f1,f2,f3⟩:vF.frozen? ⟨gq,0,none⟩=false/\vF.frozen? ⟨gq,1,none⟩=false/\vF.frozen? ⟨gq,2,none⟩=false/\vF.frozen? ⟨gq,3,none⟩=false:=⟨ll.frozen 0,ll.frozen 1,ll.frozen 2,ll.frozen 3⟩;obtain⟨W1,hW1⟩:∃W1,W1=aD vF gq 0 (.int .i64 z.lv) (.bool z.b) (.slice z.a z.n z.p) (.slice z.ka z.kn z.kp):=⟨_,rfl⟩;rw[<-hW1]at bA aT dN hz1;unfold aD at hW1;have iG:=hHeld.ext dN
  try clear ak
  refine aI 9 λK hK=>?_;go_simp;rw[<-hW1];clear hW1;refine nx hK iG ?_;clear hK K q0 q1 q2 q3 f0 f1 f2 f3;have bS:=ae bA;have qkC:au W1 (gz+2) 42 4 (arr zA):=jP.out.ext (iV.out.trans dN)
  have hHN:w.heap.size<=gz+2:=by have:=Ej.out;omega
  obtain⟨⟨q0,q1,q2,q3⟩,⟨f0,f1,f2,f3⟩,⟨r0,r1,r2,r3⟩,HF⟩:=gI (M:=M) (w:=w) qkC jm.out hHN (HE.out.trans (iV.out.trans dN)) (hz1.more (M':=M') λb hb=>.inl (.inl hb)) BN.out;have HR:Hid (qaK M w f g J (.returned (.agg (ag z))) _):=⟨_,n,V,HF.out.choose_spec.1,wm,iw,HF.out.choose_spec.2.1,HF.out.choose_spec.2.2⟩;obtain⟨b0,b1,b2,b3⟩:W1.cell? ⟨gq,0,none⟩=some (.int .i64 z.lv)/\W1.cell? ⟨gq,1,none⟩=some (.bool z.b)/\W1.cell? ⟨gq,2,none⟩=some (.slice z.a z.n z.p)/\W1.cell? ⟨gq,3,none⟩=some (.slice z.ka z.kn z.kp):=⟨bS.out.cell (i:=0) (by omega),bS.out.cell (i:=1) (by omega),bS.out.cell (i:=2) (by omega),bS.out.cell (i:=3) (by omega)⟩;clear Ig aT hz1 ll bA bS qkC zN dN EF iG hHeld HF wm iw hle Ol hHN
  (refine aI 10 λK hK=>?_);go_simp;(refine fz hK ?_);clear hK K
  go_wp2;exact aV (v:=.agg (ag z)) (by simp[results,Tryz.results147,go_sem,r0,r1,r2,r3]) rfl HR.out
theorem qDG(M:Nat->Prop)(f g:List Tm)(x y:PE)(J B C A D:Nat)(w:World)(h1:1<=J)(h4:J<=4)(hM:Mb M w)(h:PI M w x f)(k:PI M w y g)(nf:NN f)(ng:NN g)(hz:¬af g [])(hB:bE B f)(hC:bE C g)(jM:C+1<=1099511627776)(hA:aF (aB f)<=A)(hD:aF (aB g)<=D)(Ai:D+1<=1099511627776)(hN:LK B C A D):
 Calls Tryz.prog 147 #[.agg (ag x),.agg (ag y),.int .i64 (J:Int)] w (qaK M w f g J):=qDH (B+1) M f g x y J B C A D w h1 h4 hM h k nf ng hz hB hC jM hA hD Ai hN.m λ_ _ _ hs=>hs.le hB
def MI(f g:List Tm)(L:Int)(w:World)(e:Ending)(w':World):Prop:=∃er:Int,e=.returned (.int .i64 er)/\((¬(1<=L/\L<=4)/\er=4)\/((1<=L/\L<=4)/\(af f []\/af g [])/\er=2)\/((1<=L/\L<=4)/\¬af f []/\¬af g []/\er=0))/\Ext w w'
theorem XL(w:World)(x y:PE):P4 ((w.alloc (.cells (ag x) 42)).alloc (.cells (ag y) 42)) w.heap.size x/\P4 ((w.alloc (.cells (ag x) 42)).alloc (.cells (ag y) 42)) (w.heap.size+1) y:=by
 have h1:=au.aO (w.alloc (.cells (ag x) 42)) (ag y) 42 4 rfl;have h2:=(au.aO w (ag x) 42 4 rfl).alloc (.cells (ag y) 42);simp only[World.size_alloc]at h1 h2;exact⟨h2.p4,h1.p4⟩
theorem qDD(M:Nat->Prop)(f g:List Tm)(x y:PE)(L:Int)(w:World)(hM:Mb M w)(h:PI M w x f)(k:PI M w y g):Calls Tryz.prog 117 #[.agg (ag x),.agg (ag y),.int .i64 L] w (MI f g L w):=by
 have hX:=((ai w).alloc (.cells (ag x) 42)).alloc (.cells (ag y) 42);have hB:=XL w x y;have CF:Hid (∀W',Ext w W'->Calls Tryz.prog 51 #[.agg (ag x)] W' λe w'=>∃b:Bool,e=.returned (.bool b)/\(b=true↔af f [])/\Ext W' w'):=λW' he=>Iy M x f W' (hM.ext he) (h.ext he);have CG:Hid (∀W',Ext w W'->Calls Tryz.prog 51 #[.agg (ag y)] W' λe w'=>∃b:Bool,e=.returned (.bool b)/\(b=true↔af g [])/\Ext W' w'):=λW' he=>Iy M y g W' (hM.ext he) (k.ext he);clear hM h k;generalize hW:(w.alloc (.cells (ag x) 42)).alloc (.cells (ag y) 42)=W at*;have HW:=ae hW;have HX:=ae hX;have HB:=ae hB;clear hX hB hW
 by_cases l1:L<1
 ·have HR:Hid (MI f g L w (.returned (.int .i64 4)) W):=⟨4,rfl,.inl ⟨by omega,rfl⟩,HX.out⟩;clear CF CG
  go_enter Tryz.func117,Tryz.ntmps117
  go_upto_region 1 with(fail)
  rw[HW.out];go_wp2;go_ret;exact HR.out
 by_cases l4:4<L
 ·have HR:Hid (MI f g L w (.returned (.int .i64 4)) W):=⟨4,rfl,.inl ⟨by omega,rfl⟩,HX.out⟩;clear CF CG
  go_enter Tryz.func117,Tryz.ntmps117
  go_upto_region 1 with(fail)
  rw[HW.out];go_wp2;go_ret;exact HR.out
 have HL:Hid (1<=L/\L<=4):=⟨by omega,by omega⟩
 go_enter Tryz.func117,Tryz.ntmps117
 go_upto_region 1 with(fail)
 rw[HW.out];generalize w.heap.size=gz at*;obtain⟨⟨x0,x1,x2,x3⟩,y0,y1,y2,y3⟩:=HB.out;go_wp2_with (fail);refine(CF.out _ HX.out).mono ?_;rintro e w1 ⟨b,rfl,hb,ah⟩;have nJ:=ae (HX.out.trans ah);have Y2:=ae hb;obtain⟨⟨x0,x1,x2,x3⟩,y0,y1,y2,y3⟩:P4 w1 gz x/\P4 w1 (gz+1) y:=⟨HB.out.1.ext ah,HB.out.2.ext ah⟩;clear hb ah CF HB HX;cases b
 rotate_left
 ·have HR:Hid (MI f g L w (.returned (.int .i64 2)) w1):=⟨2,rfl,.inr (.inl ⟨HL.out,.inl (Y2.out.1 rfl),rfl⟩),nJ.out⟩;go_wp2;go_ret;exact HR.out
 have ZM:Hid (¬af f []):=λh=>absurd (Y2.out.2 h) (by decide);clear Y2;go_wp2_with (fail);refine(CG.out _ nJ.out).mono ?_;rintro e w2 ⟨b,rfl,hb,az⟩;have nK:=ae (nJ.out.trans az);have HBG:=ae hb;clear hb az CG nJ;cases b
 ·have HR:Hid (MI f g L w (.returned (.int .i64 0)) w2):=⟨0,rfl,.inr (.inr ⟨HL.out,ZM.out,λh=>absurd (HBG.out.2 h) (by decide),rfl⟩),nK.out⟩;go_wp2;go_ret;exact HR.out
 ·have HR:Hid (MI f g L w (.returned (.int .i64 2)) w2):=⟨2,rfl,.inr (.inl ⟨HL.out,.inr (HBG.out.1 rfl),rfl⟩),nK.out⟩;go_wp2;go_ret;exact HR.out
def M9(M':Nat->Prop)(A B:Option Nat):Nat->Prop:=λg=>M' g\/A=some g\/B=some g
structure S9(M':Nat->Prop)(wd wk:World)(A B:Option Nat):Prop where
 e:Ext wd wk
 m:Mb M' wd
 a:∀g,A=some g->au wk g 42 4 (arr zA)/\wd.heap.size<=g
 b:∀g,B=some g->au wk g 42 4 (arr zA)/\wd.heap.size<=g
 ne:∀g,A=some g->B≠some g
theorem S9.lt{M':Nat->Prop}{wd wk:World}{A B:Option Nat}(h:S9 M' wd wk A B)(g:Nat)(hg:A=some g\/B=some g):wd.heap.size<=g/\g<wk.heap.size:=by
 rcases hg with hg|hg
 ·exact⟨(h.a g hg).2,(h.a g hg).1.lt⟩
 ·exact⟨(h.b g hg).2,(h.b g hg).1.lt⟩
theorem S9.mb{M':Nat->Prop}{wd wk:World}{A B:Option Nat}(h:S9 M' wd wk A B):Mb (M9 M' A B) wk:=λg hg=>hg.elim (λq=>bB (h.m g q) h.e.size) λq=>(h.lt g q).2
theorem S9.start{M':Nat->Prop}{wd:World}(hm:Mb M' wd):S9 M' wd wd none none:=⟨ai _,hm,(λg h=>by cases h),(λg h=>by cases h),λg h=>by cases h⟩
theorem S9.call{M':Nat->Prop}{wd wk w':World}{A B:Option Nat}(h:S9 M' wd wk A B)(d:Ext wk w'):S9 M' wd w' A B:=⟨h.e.trans d,h.m,λg hg=>⟨(h.a g hg).1.ext d,(h.a g hg).2⟩,λg hg=>⟨(h.b g hg).1.ext d,(h.b g hg).2⟩,h.ne⟩
theorem S9.sub{M':Nat->Prop}{wd wk:World}{A B:Option Nat}(h:S9 M' wd wk A B):∀g,M9 M' A B g->M' g\/wd.heap.size<=g:=λg hg=>hg.imp id λq=>(h.lt g q).1
theorem S9.uM{M':Nat->Prop}{wd wk:World}{B:Option Nat}(h:S9 M' wd wk none B):S9 M' wd (wk.alloc (.cells zA 42)) (some wk.heap.size) B:=by
 have d:Ext wk (wk.alloc (.cells zA 42)):=(ai wk).alloc _;refine⟨h.e.trans d,h.m,λg hg=>?_,λg hg=>⟨(h.b g hg).1.ext d,(h.b g hg).2⟩,λg hg hb=>?_⟩
 ·cases hg;exact⟨au.aO wk zA 42 4 rfl,h.e.size⟩
 ·cases hg;have:=(h.b _ hb).1.lt;omega
theorem S9.qtW{M':Nat->Prop}{wd wk:World}{A:Option Nat}(h:S9 M' wd wk A none):S9 M' wd (wk.alloc (.cells zA 42)) A (some wk.heap.size):=by
 have d:Ext wk (wk.alloc (.cells zA 42)):=(ai wk).alloc _;refine⟨h.e.trans d,h.m,λg hg=>⟨(h.a g hg).1.ext d,(h.a g hg).2⟩,λg hg=>?_,λg hg hb=>?_⟩
 ·cases hg;exact⟨au.aO wk zA 42 4 rfl,h.e.size⟩
 ·cases hb;have:=(h.a _ hg).1.lt;omega
theorem S9.lN{M':Nat->Prop}{wd wk:World}{B:Option Nat}{x:PE}{l:List Tm}(_:S9 M' wd wk none B)(hx:aG (M9 M' none B) wk 4 x l):aG (M9 M' (some wk.heap.size) B) (wk.alloc (.cells zA 42)) 4 x l:=by
 refine(hx.more (M':=M9 M' (some wk.heap.size) B) λg hg=>?_).ext ((ai wk).alloc _);rcases hg with hg|hg|hg
 ·exact .inl (.inl hg)
 ·cases hg;exact .inr (aA _)
 ·exact .inl (.inr (.inr hg))
theorem S9.qeS{M':Nat->Prop}{wd wk:World}{A:Option Nat}{x:PE}{l:List Tm}(_:S9 M' wd wk A none)(hx:aG (M9 M' A none) wk 4 x l):aG (M9 M' A (some wk.heap.size)) (wk.alloc (.cells zA 42)) 4 x l:=by
 refine(hx.more (M':=M9 M' A (some wk.heap.size)) λg hg=>?_).ext ((ai wk).alloc _);rcases hg with hg|hg|hg
 ·exact .inl (.inl hg)
 ·exact .inl (.inr (.inl hg))
 ·cases hg;exact .inr (aA _)
def uL(a b:Nat)(x y:PE)(w:World):Prop:=P4 w a x/\P4 w b y
theorem uL.ext{a b:Nat}{x y:PE}{w w':World}(h:uL a b x y w)(he:Ext w w'):uL a b x y w':=⟨h.1.ext he,h.2.ext he⟩
theorem VB{L n:Nat}{l:List Tm}(h:∀s∈l,s.2.get L<=(n:Int))(m:Mo)(hm:aH l m≠0):m.get L<=(n:Int):=
 gQ λhc=>hm (rY λt ht e=>hc (e ▸ h t ht))
def MO(g1 g2 g3:Nat)(x y v:PE)(w:World):Prop:=P4 w g1 x/\P4 w g2 y/\P4 w g3 v
theorem MO.ext{g1 g2 g3:Nat}{x y v:PE}{w w':World}(h:MO g1 g2 g3 x y v w)(he:Ext w w'):MO g1 g2 g3 x y v w':=⟨h.1.ext he,h.2.1.ext he,h.2.2.ext he⟩
theorem Xk(z:Int)(hz: -100<=z/\z<=100)(W':World):Calls Tryz.prog 27 #[.int .i64 z] W' λe w'=>∃b a n p,e=.returned (.agg #[.bool b,.slice a n p])/\dh M0 w' (.bool b) (.slice a n p) z/\Ext W' w':=by
 refine(DD z W' (pV _) (by omega) (by omega)).mono ?_;rintro e w' ⟨e0,e1,rfl,hI,he⟩;obtain⟨b,a,n,p,rfl,rfl⟩:=hI.form;exact⟨b,a,n,p,rfl,hI.dB,he⟩
def Qu(M:Nat->Prop)(w:World)(g N c:Nat)(P:Nat->List Tm):Prop:=(N<=c/\c<=maxLen)/\∃f,au w g 42 (c*4) f/\∀i,i<N->CR M w 4 (f (i*4)) (f (i*4+1)) (f (i*4+2)) (f (i*4+3)) (P i)
theorem Qu.ext{M:Nat->Prop}{w w':World}{g N c:Nat}{P:Nat->List Tm}(h:Qu M w g N c P)(he:Ext w w'):Qu M w' g N c P:=by
 obtain⟨h0,f,h1,h2⟩:=h;exact⟨h0,f,h1.ext he,λi hi=>(h2 i hi).ext he⟩
def rwf(gs cs:Nat->Nat)(N:Nat):Nat->Value:=λk=>.slice (some ⟨gs k,0,none⟩) N (cs k)
def Mat(M:Nat->Prop)(w:World)(base:Nat)(v:Value)(S N:Nat)(P:Nat->Nat->List Tm):Prop:=∃gs cs:Nat->Nat,Own w base 34 1 v S (rwf gs cs N)/\(S=0->v=.slice none 0 0)/\∀k,k<S->base<=gs k/\v.ownBlock≠some (gs k)/\Qu (MR M v) w (gs k) N (cs k) (P k)
theorem Mat.ext{M:Nat->Prop}{w w':World}{base:Nat}{v:Value}{S N:Nat}{P:Nat->Nat->List Tm}(h:Mat M w base v S N P)(he:Ext w w'):Mat M w' base v S N P:=by
 obtain⟨gs,cs,h1,h0,h2⟩:=h;exact⟨gs,cs,h1.ext he,h0,λk hk=>⟨(h2 k hk).1,(h2 k hk).2.1,(h2 k hk).2.2.ext he⟩⟩
def Num(w:World)(a:Option Addr)(n cap:Nat)(f:Nat->Int):Prop:=∀j,j<n->∃g,a=some ⟨g,0,none⟩/\w.cell? ⟨g,j,none⟩=some (.int .i64 (f j))/\g<w.heap.size/\n<=cap/\cap<=maxLen
theorem Num.ext{w w':World}{a:Option Addr}{n cap:Nat}{f:Nat->Int}(h:Num w a n cap f)(he:Ext w w'):Num w' a n cap f:=λj hj=>by
 obtain⟨g,h1,h2,h3,h4⟩:=h j hj;exact⟨g,h1,by rw[he.cell h3];exact h2,bB h3 he.size,h4⟩
def qa7(g:Nat)(x:PE)(gp t:Nat)(q:Int)(w:World):Prop:=P4 w g x/\w.cell? ⟨gp,t,none⟩=some (.int .i64 q)/\gp<w.heap.size
theorem qa7.ext{g:Nat}{x:PE}{gp t:Nat}{q:Int}{w w':World}(h:qa7 g x gp t q w)(he:Ext w w'):qa7 g x gp t q w':=⟨h.1.ext he,by rw[he.cell h.2.2];exact h.2.1,bB h.2.2 he.size⟩
def qaE(M:Nat->Prop)(w:World)(v:Value)(S N:Nat)(P:Nat->Nat->List Tm):Prop:=∃(gs cs:Nat->Nat)(a:Option Addr)(cap:Nat),v=.slice a S cap/\S<=cap/\∀k,k<S->∃g,a=some ⟨g,0,none⟩/\g<w.heap.size/\w.cell? ⟨g,k,none⟩=some (.slice (some ⟨gs k,0,none⟩) N (cs k))/\Qu M w (gs k) N (cs k) (P k)
theorem qaE.ext{M:Nat->Prop}{w w':World}{v:Value}{S N:Nat}{P:Nat->Nat->List Tm}(h:qaE M w v S N P)(he:Ext w w'):qaE M w' v S N P:=by
 obtain⟨gs,cs,a,cap,rfl,hc,h⟩:=h;refine⟨gs,cs,a,cap,rfl,hc,λk hk=>?_⟩;obtain⟨g,h1,h2,h3,h4⟩:=h k hk;exact⟨g,h1,bB h2 he.size,by rw[he.cell h2];exact h3,h4.ext he⟩
def Vg(ga gb k:Nat)(u v:Value)(w:World):Prop:=(w.cell? ⟨ga,k,none⟩=some u/\ga<w.heap.size)/\w.cell? ⟨gb,k,none⟩=some v/\gb<w.heap.size
theorem Vg.ext{ga gb k:Nat}{u v:Value}{w w':World}(h:Vg ga gb k u v w)(he:Ext w w'):Vg ga gb k u v w':=⟨⟨by rw[he.cell h.1.2];exact h.1.1,bB h.1.2 he.size⟩,by rw[he.cell h.2.2];exact h.2.1,bB h.2.2 he.size⟩
def SE4(ga gb k:Nat)(u v:Value)(g1 g2 o:Nat)(x y:PE)(w:World):Prop:=Vg ga gb k u v w/\(eF w g1 o x/\g1<w.heap.size)/\eF w g2 o y/\g2<w.heap.size
theorem SE4.ext{ga gb k:Nat}{u v:Value}{g1 g2 o:Nat}{x y:PE}{w w':World}(h:SE4 ga gb k u v g1 g2 o x y w)(he:Ext w w'):SE4 ga gb k u v g1 g2 o x y w':=⟨h.1.ext he,⟨h.2.1.1.ext h.2.1.2 he,bB h.2.1.2 he.size⟩,h.2.2.1.ext h.2.2.2 he,bB h.2.2.2 he.size⟩
end Go.Proofs.YtaafefeafonhdaaGreat
namespace Go.Proofs.YtaafefeafonhdaaGreat
def eM(x:Nat->Int)(m:Mo):Int:=if m.nn=true then x 0^m.a.toNat*x 1^m.b.toNat*x 2^m.c.toNat*x 3^m.d.toNat else 0
def ev(x:Nat->Int):List Tm->Int
 |[]=>0
 |t::l=>t.1*eM x t.2+ev x l
theorem tQ(x:Nat->Int)(l r:List Tm):ev x (l++r)=ev x l+ev x r:=by
 induction l with
 |nil=>simp[ev]
 |cons t l ih=>simp only[List.cons_append,ev,ih,Int.add_assoc]
theorem QX(x:Nat->Int)(c:Int)(l:List Tm):ev x (smul c l)=c*ev x l:=by
 induction l with
 |nil=>simp[smul,ev]
 |cons t l ih=>
  show c*t.1*eM x t.2+ev x (smul c l)=_;rw[ih];simp only[ev]
  grind
theorem qv4(x:Nat->Int)(c:Int)(m:Mo)(l:List Tm):ev x (ins c m l)=c*eM x m+ev x l:=by
 induction l with
 |nil=>
  simp only[ins];split
  ·rename_i h;subst h;simp[ev]
  ·simp[ev]
 |cons s r ih=>
  simp only[ins]
  split
  ·rename_i h1;subst h1
   split
   ·rename_i h2;simp only[ev];generalize eM x s.2=p;generalize ev x r=u
    have e3:(s.1+c)*p=0:=by rw[h2,Int.zero_mul]
    grind
   ·simp only[ev];generalize eM x s.2=p;generalize ev x r=u
    grind
  ·split
   ·split
    ·rename_i h;subst h;simp
    ·simp only[ev]
   ·simp only[ev,ih];generalize ev x r=u;generalize s.1*eM x s.2=v;generalize c*eM x m=y
    grind
theorem EH(x:Nat->Int):∀l:List Tm,ev x (norm l)=ev x l
 |[]=>rfl
 |t::l=>by
  have ih:=EH x l;simp only[norm]
  split
  ·rw[qv4,ih];rfl
  ·rename_i h;show _=t.1*eM x t.2+ev x l;rw[ih,eM,aj h];simp
theorem rf(x:Nat->Int){l r:List Tm}(h:af l r):ev x l=ev x r:=by
 rw[<-EH x l, <-EH x r,h.norm]
theorem qvw(x:Nat->Int)(p q:Mo)(hp:p.nn=true)(hq:q.nn=true):eM x (Mo.add p q)=eM x p*eM x q:=by
 obtain⟨x1,x2,x3,x4⟩:=(Mo.uZ p).1 hp;obtain⟨y1,y2,y3,y4⟩:=(Mo.uZ q).1 hq
 have h:(Mo.add p q).nn=true:=by rw[Mo.uZ];unfold Mo.add;refine⟨?_,?_,?_,?_⟩<;>simp only<;>omega
 unfold eM;rw[av hp,av hq,av h];unfold Mo.add;simp only;rw[Int.toNat_add x1 y1,Int.toNat_add x2 y2,Int.toNat_add x3 y3,Int.toNat_add x4 y4,Int.pow_add,Int.pow_add,Int.pow_add,Int.pow_add];generalize x 0^p.a.toNat=p1;generalize x 0^q.a.toNat=q1;generalize x 1^p.b.toNat=p2;generalize x 1^q.b.toNat=q2;generalize x 2^p.c.toNat=p3;generalize x 2^q.c.toNat=q3;generalize x 3^p.d.toNat=p4;generalize x 3^q.d.toNat=q4
 grind
theorem qv9(x:Nat->Int)(k:Mo)(hk:k.nn=true)(l:List Tm)(hl:∀t∈l,t.2.nn=true):ev x (shift k l)=eM x k*ev x l:=by
 induction l with
 |nil=>show ev x []=_;simp[ev]
 |cons t l ih=>
  show t.1*eM x (Mo.add t.2 k)+ev x (shift k l)=_;rw[ih λs hs=>hl s (List.mem_cons_of_mem _ hs),qvw x _ _ (hl t (List.mem_cons_self ..)) hk];simp only[ev];generalize eM x t.2=p;generalize eM x k=q;generalize ev x l=r
  grind
theorem qkh(x:Nat->Int)(k:Mo)(hk:k.nn=true){l:List Tm}(hl:NN l):ev x (shift k l)=eM x k*ev x l:=by
 rw[<-EH x l, <-qv9 x k hk _ (Co l)];exact rf x ((o6 hl).symm.shift k)
theorem qkg(x:Nat->Int)(r:List Tm)(hr:NN r):∀l:List Tm,(∀t∈l,t.2.nn=true)->ev x (aC l r)=ev x l*ev x r
 |[],_=>by show ev x []=_;simp[ev]
 |s::l,hl=>by
  show ev x (shift s.2 (smul s.1 r)++aC l r)=_;rw[tQ,qkg x r hr l λt ht=>hl t (List.mem_cons_of_mem _ ht),qkh x _ (hl s List.mem_cons_self) (λm hm=>by rw[mO,hr m hm];simp),QX];simp only[ev];generalize eM x s.2=p;generalize ev x r=q;generalize ev x l=u
  grind
theorem jq(x:Nat->Int){l r:List Tm}(hl:NN l)(hr:NN r):ev x (aC l r)=ev x l*ev x r:=by
 rw[<-EH x l, <-qkg x r hr _ (Co l)];exact rf x ((o6 hl).symm.qN r)
theorem J2(x:Nat->Int)(z:Int):ev x [(z,Mo.zero)]=z:=by
 have h:Mo.zero.nn=true:=by decide
 have e:eM x Mo.zero=1:=by unfold eM;rw[av h];simp[Mo.zero]
 simp[ev,e]
def wM(t:Int)(c:Nat->Int):Nat->Int
 |0=>0
 |n+1=>wM t c n+c n*t^n
theorem qfr(t:Int)(c:Nat->Int):∀n,wM t c (n+1)=c 0+t*wM t (λi=>c (i+1)) n
 |0=>by simp[wM]
 |n+1=>by
  have ih:=qfr t c n;show wM t c (n+1)+c (n+1)*t^(n+1)=c 0+t*(wM t (λi=>c (i+1)) n+c (n+1)*t^n);rw[ih,Int.pow_succ];generalize wM t (λi=>c (i+1)) n=p;generalize t^n=q
  grind
theorem qqh:∀(n:Nat)(c:Nat->Int),(∀t:Int,t≠0->wM t c n=0)->∀i,i<n->c i=0
 |0,_,_,i,hi=>absurd hi (Nat.not_lt_zero _)
 |n+1,c,h,i,hi=>by
  have h0:c 0=0:=by
   have h1:=h ((c 0).natAbs+1) (by omega);rw[qfr]at h1;have h2:(((c 0).natAbs:Int)+1)∣c 0:=⟨-wM (((c 0).natAbs:Int)+1) (λi=>c (i+1)) n,by rw[Int.mul_neg];omega⟩;exact Int.eq_zero_of_dvd_of_natAbs_lt_natAbs h2 (by omega)
  have h3:∀t:Int,t≠0->wM t (λi=>c (i+1)) n=0:=λt ht=>by
   have h1:=h t ht;rw[qfr,h0,Int.zero_add]at h1;rcases Int.mul_eq_zero.1 h1 with h2|h2
   ·exact absurd h2 ht
   ·exact h2
  cases i with
  |zero=>exact h0
  |succ i=>exact qqh n _ h3 i (by omega)
theorem qrQ(L i:Nat):(xp L (i:Int)).nn=true:=by
 rw[Mo.uZ];unfold xp;simp only;refine⟨?_,?_,?_,?_⟩<;>split<;>omega
theorem qvy(x:Nat->Int)(L i:Nat)(h1:1<=L)(h4:L<=4):eM x (xp L (i:Int))=x (L-1)^i:=by
 unfold eM;rw[av (qrQ L i)];rcases Td h1 h4 with rfl|rfl|rfl|rfl<;>simp[xp]
theorem QW(x:Nat->Int)(L n:Nat)(P:Nat->List Tm)(h1:1<=L)(h4:L<=4)(hP:∀i,i<n->NN (P i)):ev x (aM L n P)=wM (x (L-1)) (λi=>ev x (P i)) n:=by
 induction n with
 |zero=>rfl
 |succ n ih=>
  rw[gF,tQ,ih λi hi=>hP i (by omega),qkh x _ (qrQ L n) (hP n (by omega)),qvy x L n h1 h4,Int.mul_comm];rfl
theorem qwa(x y:Nat->Int){l:List Tm}(hl:NN l)(h:∀k,1<=k->k<=4->x (k-1)≠y (k-1)->∀m,aH l m≠0->m.get k=0):ev x l=ev y l:=by
 rw[<-EH x l, <-EH y l];have hc:=o7 l
 have hk:∀t∈norm l,∀k,1<=k->k<=4->x (k-1)≠y (k-1)->t.2.get k=0:=λt ht k h1 h4 hne=>h k h1 h4 hne t.2 (by
  rw[<-o6 hl t.2]
  exact M4 hc ht)
 clear hc;generalize norm l=r at*;clear hl h
 induction r with
 |nil=>rfl
 |cons t r ih=>
  show t.1*eM x t.2+ev x r=t.1*eM y t.2+ev y r;rw[ih λs hs=>hk s (List.mem_cons_of_mem _ hs)]
  congr 2
  unfold eM
  split
  ·have e:∀k,1<=k->k<=4->x (k-1)^(t.2.get k).toNat=y (k-1)^(t.2.get k).toNat:=λk h1 h4=>by
    by_cases hne:x (k-1)=y (k-1)
    ·rw[hne]
    ·rw[hk t List.mem_cons_self k h1 h4 hne];simp
   have e1:=e 1 (by omega) (by omega);have e2:=e 2 (by omega) (by omega);have e3:=e 3 (by omega) (by omega);have e4:=e 4 (by omega) (by omega);simp only[Mo.get]at e1 e2 e3 e4;simp at e1 e2 e3 e4;rw[e1,e2,e3,e4]
  ·rfl
theorem qjF:∀l:List Tm,∃B:Nat,∀m,aH l m≠0->∀k,m.get k<=B
 |[]=>⟨0,λm hm=>absurd rfl hm⟩
 |t::l=>by
  obtain⟨B,hB⟩:=qjF l;refine⟨B+t.2.a.natAbs+t.2.b.natAbs+t.2.c.natAbs+t.2.d.natAbs,λm hm k=>?_⟩
  by_cases h0:aH l m=0
  ·have ht:t.2=m:=gQ λhc=>hm (by simp only[aH];rw[aj hc,h0];rfl);subst ht;unfold Mo.get
   (repeat' split)<;>omega
  ·have:=hB m h0 k;omega
theorem qkf:∀(L:Nat),L<=4->∀l:List Tm,NN l->(∀m,aH l m≠0->∀k,L<k->k<=4->m.get k=0)->¬af l []->∃x,ev x l≠0
 |0,_,l,hl,h,hz=>by
  obtain⟨m,hm⟩:=OI hz
  have h0:∀m,aH l m≠0->m=Mo.zero:=λm hm=>Mo.ext_get λk h1 h4=>by rw[h m hm k (by omega) h4,CO]
  obtain rfl:=h0 m hm
  have hs:af l [(aH l Mo.zero,Mo.zero)]:=λq=>by
   simp only[aH]
   by_cases hq:Mo.zero=q
   ·subst hq;simp
   ·rw[aj hq];refine gQ λhc=>hq (h0 q (λe=>hc (by rw[e];rfl))).symm
  exact⟨λ_=>0,by rw[rf _ hs,J2];exact hm⟩
 |L+1,h4,l,hl,h,hz=>by
  obtain⟨m,hm⟩:=OI hz;have jH:m.nn=true:=gQ λhc=>hm (hl m (by simpa using hc));obtain⟨e,he⟩:∃e:Nat,m.get (L+1)=(e:Int):=⟨(m.get (L+1)).toNat,by have:=Bt jH (L+1);omega⟩;have hc:=Na (k:=L+1) (by omega) h4 hm;rw[he]at hc
  have qmz:∀(i:Nat) m,aH (ck (L+1) (i:Int) l) m≠0->∀k,L<k->k<=4->m.get k=0:=λi m hm k hk rA=>by
   rw[tL (by omega) h4]at hm
   split at hm
   ·rename_i h0
    by_cases RS:k=L+1
    ·subst RS;exact h0
    ·have:=h _ hm k (by omega) rA;rw[iL,gM _ _ _ (by omega) h4,aj RS]at this;omega
   ·exact absurd rfl hm
  obtain⟨x,hx⟩:=qkf L (by omega) _ (gX (by omega) h4 hl) (qmz e) hc;obtain⟨B,hB⟩:=qjF l
  have hB':∀m,aH l m≠0->m.get (L+1)<((B+1+e:Nat):Int):=λm hm=>by have:=hB m hm (L+1);omega
  have hp:=QJ (N:=B+1+e) (by omega) h4 hl hB';refine gQ λWl=>?_;have kI:∀y,ev y l=0:=λy=>gQ λhc=>Wl ⟨y,hc⟩
  have hz:=qqh (B+1+e) (λi=>ev x (ck (L+1) (i:Int) l)) (λt _=>by
   have h1:=kI (λk=>if k=L then t else x k);rw[<-rf _ hp,QW _ _ _ _ (by omega) h4 λi _=>gX (by omega) h4 hl]at h1
   rw[show(λi:Nat=>ev x (ck (L+1) (i:Int) l))=λi:Nat=>ev (λk=>if k=L then t else x k) (ck (L+1) (i:Int) l)from funext λi=>qwa _ _ (gX (by omega) h4 hl) λk h1 rA hne m hm=>by
    by_cases hk:k-1=L
    ·exact qmz i m hm k (by omega) rA
    ·rw[aj hk]at hne;exact absurd rfl hne]
   simpa using h1) e (by omega)
  exact hx hz
theorem qq6{l:List Tm}(hl:NN l)(h:∀x,ev x l=0):af l []:=gQ λhc=>by
 obtain⟨x,hx⟩:=qkf 4 (aA _) l hl (λm _ k h1 h4=>by omega) hc;exact hx (h x)
theorem wN{l r:List Tm}(hl:NN l)(hr:NN r)(h:∀x,ev x l=ev x r):af l r:=by
 have h1:af (l++smul (-1) r) []:=qq6 (λm hm=>by rw[iJ,mO,hl m hm,hr m hm];rfl) λx=>by
  rw[tQ,QX,h x];omega
 intro m;have:=h1 m;rw[iJ,mO]at this;have e:aH ([]:List Tm) m=0:=rfl;omega
def yg(c:Nat):Int:=if c%2=0 then 1 else-1
def Ti(P:Nat->Nat->List Tm)(c:Nat):Nat->Nat->List Tm:=λr k=>P (r+1) (if k<c then k else k+1)
def QS(D:(Nat->Nat->List Tm)->List Tm)(P:Nat->Nat->List Tm):Nat->List Tm
 |0=>[]
 |c+1=>QS D P c++smul (yg c) (aC (P 0 c) (D (Ti P c)))
def tN:Nat->(Nat->Nat->List Tm)->List Tm
 |0,_=>[(1,Mo.zero)]
 |n+1,P=>QS (tN n) P (n+1)
def zo(a:Nat->Nat->Int)(c:Nat):Nat->Nat->Int:=λr k=>a (r+1) (if k<c then k else k+1)
def xD(D:(Nat->Nat->Int)->Int)(a:Nat->Nat->Int):Nat->Int
 |0=>0
 |c+1=>xD D a c+yg c*(a 0 c*D (zo a c))
def qZ:Nat->(Nat->Nat->Int)->Int
 |0,_=>1
 |n+1,a=>xD (qZ n) a (n+1)
theorem qAR{l:List Tm}(h:NN l)(c:Int):NN (smul c l):=λm hm=>by rw[mO,h m hm];simp
theorem xV(z:Int):NN [(z,Mo.zero)]:=uk λt ht=>by
 simp only[List.mem_singleton]at ht;subst ht;rfl
theorem qpu{D:(Nat->Nat->List Tm)->List Tm}{P:Nat->Nat->List Tm}(hD:∀c,NN (D (Ti P c)))(hP:∀i j,NN (P i j)):∀c,NN (QS D P c)
 |0=>NN.nil
 |c+1=>(qpu hD hP c).append (qAR (Ll (hP 0 c) (hD c)) _)
theorem XM:∀(n:Nat)(P:Nat->Nat->List Tm),(∀i j,NN (P i j))->NN (tN n P)
 |0,_,_=>xV 1
 |n+1,_,h=>qpu (λc=>XM n _ λi j=>h _ _) h _
theorem qkd(x:Nat->Int){D:(Nat->Nat->List Tm)->List Tm}{DI:(Nat->Nat->Int)->Int}{P:Nat->Nat->List Tm}(hN:∀c,NN (D (Ti P c)))(hD:∀c,ev x (D (Ti P c))=DI (zo (λi j=>ev x (P i j)) c))(hP:∀i j,NN (P i j)):∀c,ev x (QS D P c)=xD DI (λi j=>ev x (P i j)) c
 |0=>rfl
 |c+1=>by
  show ev x (QS D P c++smul (yg c) (aC (P 0 c) (D (Ti P c))))=_;rw[tQ,qkd x hN hD hP c,QX,jq x (hP 0 c) (hN c),hD c];rfl
theorem VH(x:Nat->Int):∀(n:Nat)(P:Nat->Nat->List Tm),(∀i j,NN (P i j))->ev x (tN n P)=qZ n (λi j=>ev x (P i j))
 |0,_,_=>J2 x 1
 |n+1,P,h=>qkd x (λc=>XM n _ λi j=>h _ _) (λc=>VH x n _ λi j=>h _ _) h _
structure Pd(P:Nat->Nat->List Tm):Prop where
 nn:∀i j,NN (P i j)
 deg:∀i j,bE 3 (P i j)
 dl:∀i j,aF (aB (P i j))<=5
def QF(k i j:Nat)(P:Nat->Nat->List Tm):Nat->Nat->List Tm:=λr c=>P (if r<k then r else i) (if c<k then c else j)
def yH(k i j:Nat)(a:Nat->Nat->Int):Nat->Nat->Int:=λr c=>a (if r<k then r else i) (if c<k then c else j)
theorem Pd.QF{P:Nat->Nat->List Tm}(h:Pd P)(k i j:Nat):Pd (QF k i j P):=⟨λ_ _=>h.nn _ _,λ_ _=>h.deg _ _,λ_ _=>h.dl _ _⟩
theorem qv2(x:Nat->Int){P:Nat->Nat->List Tm}(h:Pd P)(n k i j:Nat):ev x (tN n (QF k i j P))=qZ n (yH k i j λi j=>ev x (P i j)):=VH x n _ (h.QF k i j).nn
theorem qE0(a:Nat->Nat->Int)(n k:Nat)(hn:n<=4)(hk:k<n)(h:∀i,k<=i->i<n->qZ (k+1) (yH k i k a)=0):qZ k a*(qZ k a*qZ n a)=0:=by
 have hc:(k=0/\n=1)\/(k=0/\n=2)\/(k=0/\n=3)\/(k=0/\n=4)\/(k=1/\n=2)\/(k=1/\n=3)\/(k=1/\n=4)\/(k=2/\n=3)\/(k=2/\n=4)\/(k=3/\n=4):=by omega
 rcases hc with⟨rfl,rfl⟩|⟨rfl,rfl⟩|⟨rfl,rfl⟩|⟨rfl,rfl⟩|⟨rfl,rfl⟩|⟨rfl,rfl⟩|⟨rfl,rfl⟩|⟨rfl,rfl⟩|⟨rfl,rfl⟩|⟨rfl,rfl⟩
 ·have h0:=h 0 (by omega) (by omega);simp[qZ,xD,yH,zo,yg]at h0⊢
  grind
 ·have h0:=h 0 (by omega) (by omega);have h1:=h 1 (by omega) (by omega);simp[qZ,xD,yH,zo,yg]at h0 h1⊢
  grind
 ·have h0:=h 0 (by omega) (by omega);have h1:=h 1 (by omega) (by omega);have h2:=h 2 (by omega) (by omega);simp[qZ,xD,yH,zo,yg]at h0 h1 h2⊢
  grind
 ·have h0:=h 0 (by omega) (by omega);have h1:=h 1 (by omega) (by omega);have h2:=h 2 (by omega) (by omega);have h3:=h 3 (by omega) (by omega);simp[qZ,xD,yH,zo,yg]at h0 h1 h2 h3⊢
  grind
 ·have h1:=h 1 (by omega) (by omega);simp[qZ,xD,yH,zo,yg]at h1⊢
  grind
 ·have h1:=h 1 (by omega) (by omega);have h2:=h 2 (by omega) (by omega);simp[qZ,xD,yH,zo,yg]at h1 h2⊢
  grind
 ·have h1:=h 1 (by omega) (by omega);have h2:=h 2 (by omega) (by omega);have h3:=h 3 (by omega) (by omega);simp[qZ,xD,yH,zo,yg]at h1 h2 h3⊢
  grind
 ·have h2:=h 2 (by omega) (by omega);simp[qZ,xD,yH,zo,yg]at h2⊢
  grind
 ·have h2:=h 2 (by omega) (by omega);have h3:=h 3 (by omega) (by omega);simp[qZ,xD,yH,zo,yg]at h2 h3⊢
  grind
 ·have h3:=h 3 (by omega) (by omega);simp[qZ,xD,yH,zo,yg]at h3⊢
  grind
structure qgh(n:Nat)(P Q:Nat->Nat->List Tm)(k:Nat)(neg:Bool)(W:Nat->Nat->List Tm)(b:List Tm):Prop where
 q9:Pd Q
 w:∀i j,k<=i->i<n->k<=j->j<n->af (W i j) (tN (k+1) (QF k i j Q))
 bb:af b (tN k Q)
 nz:¬af b []
 d:af (tN n P) (smul (if neg=true then-1 else 1) (tN n Q))
theorem qgh.zero{n:Nat}{P Q:Nat->Nat->List Tm}{k:Nat}{neg:Bool}{W:Nat->Nat->List Tm}{b:List Tm}(h:qgh n P Q k neg W b)(hn:n<=4)(hk:k<n)(hz:∀i,k<=i->i<n->af (W i k) []):af (tN n P) []:=by
 have hN:=XM n Q h.q9.nn;have hK:=XM k Q h.q9.nn;have hb:¬af (tN k Q) []:=λhs=>h.nz (h.bb.trans hs)
 have h1:af (aC (tN k Q) (aC (tN k Q) (tN n Q))) []:=qq6 (Ll hK (Ll hK hN)) λx=>by
  rw[jq x hK (Ll hK hN),jq x hK hN,VH x k _ h.q9.nn,VH x n _ h.q9.nn];refine qE0 (λi j=>ev x (Q i j)) n k hn hk λi hi wC=>?_;rw[<-qv2 x h.q9, <-rf x (h.w i k hi wC (by omega) hk),rf x (hz i hi wC)];rfl
 have h2:af (aC (tN k Q) (tN n Q)) []:=gQ λhc=>Tw hK (Ll hK hN) hb hc h1;have h3:af (tN n Q) []:=gQ λhc=>Tw hK hN hb hc h2;exact h.d.trans (h3.smul _)
end Go.Proofs.YtaafefeafonhdaaGreat
namespace Go.Proofs.YtaafefeafonhdaaGreat
open Go.RowKit
def zx(c:Nat->Nat)(P:Nat->Nat->List Tm):Nat->Nat->List Tm:=λi j=>if j<c i then P i j else[]
def qaC(M:Nat->Prop)(w:World)(v:Value)(S:Nat)(c:Nat->Nat)(P:Nat->Nat->List Tm):Prop:=∃(a:Option Addr)(cap:Nat)(rv:Nat->Value),v=.slice a S cap/\∀k,k<S->∃g,a=some ⟨g,0,none⟩/\g<w.heap.size/\¬M g/\w.cell? ⟨g,k,none⟩=some (rv k)/\dP M w 4 (rv k) (c k) (P k)
theorem qaC.ext{M:Nat->Prop}{w w':World}{v:Value}{S:Nat}{c:Nat->Nat}{P:Nat->Nat->List Tm}(h:qaC M w v S c P)(he:Ext w w'):qaC M w' v S c P:=by
 obtain⟨a,cap,rv,rfl,h⟩:=h;refine⟨a,cap,rv,rfl,λk hk=>?_⟩;obtain⟨g,h1,h2,h3,h4,h5⟩:=h k hk;exact⟨g,h1,bB h2 he.size,h3,by rw[he.cell h2];exact h4,h5.ext he⟩
def cnt(k t:Nat):Nat:=if t<=k then t else t-1
structure WM(MW:Nat->Prop)(w:World)(g S i n:Nat)(gs:Nat->Nat)(W:Nat->Nat->List Tm):Prop where
 blk:au w g 34 S (λk=>if k<i then .slice (some ⟨gs k,0,none⟩) n n else .slice none 0 0)
 mg:MW g
 row:∀k,k<i->gs k≠g/\MW (gs k)/\Kids MW w 4 (gs k) n (W k)
 inj:∀k l,k<i->l<i->gs k=gs l->k=l
theorem WM.ext{MW:Nat->Prop}{w w':World}{g S i n:Nat}{gs:Nat->Nat}{W:Nat->Nat->List Tm}(h:WM MW w g S i n gs W)(he:Ext w w'):WM MW w' g S i n gs W:=
 ⟨h.blk.ext he,h.mg,λk hk=>⟨(h.row k hk).1,(h.row k hk).2.1,(h.row k hk).2.2.ext he⟩,h.inj⟩
theorem WM.put{MW:Nat->Prop}{w w':World}{g S i n:Nat}{gs:Nat->Nat}{W:Nat->Nat->List Tm}(h:WM MW w g S i n gs W){k:Nat}(hk:k<i){P:Nat->List Tm}(hg:w.grownBy w' (some (gs k)))(hK:Kids MW w' 4 (gs k) n P):WM MW w' g S i n gs (λr=>if r=k then P else W r):=by
 have hr:=h.row k hk
 have aT:Kp MW w w':=Kp.grown hg λb hb=>by cases hb;exact hr.2.1
 have hh:∀b,b<w.heap.size->b≠gs k->w'.heap[b]?=w.heap[b]?:=λb hb hne=>hg.block b hb λe=>hne (by cases e;rfl);refine⟨h.blk.of_heap (hh g h.blk.lt λe=>hr.1 e.symm),h.mg,λr kV=>⟨(h.row r kV).1,(h.row r kV).2.1,?_⟩,h.inj⟩
 by_cases hrk:r=k
 ·subst hrk;rw[av rfl];exact hK
 ·rw[aj hrk];exact(h.row r kV).2.2.kp (hh _ (h.row r kV).2.2.lt λe=>hrk (h.inj r k kV hk e)) aT
def SRq(g i:Nat)(r:Nat)(n:Nat)(o:Nat)(y:PE)(w:World):Prop:=(w.cell? ⟨g,i,none⟩=some (.slice (some ⟨r,0,none⟩) n n)/\g<w.heap.size)/\eF w r o y/\r<w.heap.size
theorem SRq.ext{g i r n o:Nat}{y:PE}{w w':World}(h:SRq g i r n o y w)(he:Ext w w'):SRq g i r n o y w':=⟨⟨by rw[he.cell h.1.2];exact h.1.1,bB h.1.2 he.size⟩,h.2.1.ext h.2.2 he,bB h.2.2 he.size⟩
structure qiR(M':Nat->Prop)(wd W:World)(a:Nat)(x:PE)(l:List Tm):Prop where
 f:wd.heap.size<=a
 e:Ext wd W
 p:P4 W a x
 x:aG M' W 4 x l
theorem S9.Bv{M':Nat->Prop}{wd wk:World}{a:Nat}{x:PE}{l:List Tm}(h:S9 M' wd wk (some a) none)(hx:aG (M9 M' (some a) none) wk 4 x l):
 ∃W1,W1=aD wk a 0 (.int .i64 x.lv) (.bool x.b) (.slice x.a x.n x.p) (.slice x.ka x.kn x.kp)/\Z4 wk a/\LM wk a/\qiR M' wd W1 a x l:=by
 obtain⟨hB,hw⟩:=h.a a rfl;refine⟨_,rfl,hB.z4,hB.Nn,hw,h.e.aD hw _ _ _ _ _,(JV hB x).p4,(hx.kp (Kp.aD (.inr (.inl rfl)) _ _ _ _ _)).more λg hg=>.inl (.inl hg)⟩
structure DW(M6:Nat->Prop)(w:World)(g0 g6:Nat)(s:PE)(b:List Tm)(wr:World):Prop where
 b6:au wr g6 42 4 (arr (ag s))
 s:aG M6 wr 4 s b
 b0:au wr g0 42 4 (arr zA)
 m:Mb M6 wr
 e:Ext w wr
theorem DW.ext{M6:Nat->Prop}{w:World}{g0 g6:Nat}{s:PE}{b:List Tm}{wr w':World}(h:DW M6 w g0 g6 s b wr)(he:Ext wr w'):DW M6 w g0 g6 s b w':=⟨h.b6.ext he,h.s.ext he,h.b0.ext he,h.m.ext he,h.e.trans he⟩
theorem di.bP{M:Nat->Prop}{w w':World}{L:Nat}{l r:List Tm}{e:Ending}(h:di M w L l e w')(hs:af l r):di M w L r e w':=by
 obtain⟨y',e,h1,h2⟩:=h;exact⟨y',e,h1.bP hs,h2⟩
def SDa(g i k j gi gk S:Nat)(y1 y2 y3 y4:PE)(w:World):Prop:=(w.cell? ⟨g,i,none⟩=some (.slice (some ⟨gi,0,none⟩) S S)/\w.cell? ⟨g,k,none⟩=some (.slice (some ⟨gk,0,none⟩) S S))/\eF w gi (j*4) y1/\eF w gk (k*4) y2/\eF w gi (k*4) y3/\eF w gk (j*4) y4
theorem Xt{w w':World}{b o:Nat}{x:PE}(h:eF w b o x)(he:Ext w w'):eF w' b o x:=h.ext (dM _ _ h.1) he
theorem SDa.ext{g i k j gi gk S:Nat}{y1 y2 y3 y4:PE}{w w':World}(h:SDa g i k j gi gk S y1 y2 y3 y4 w)(he:Ext w w'):SDa g i k j gi gk S y1 y2 y3 y4 w':=by
 have hl:=dM _ _ h.1.1;exact⟨⟨by rw[he.cell hl];exact h.1.1,by rw[he.cell hl];exact h.1.2⟩,Xt h.2.1 he,Xt h.2.2.1 he,Xt h.2.2.2.1 he,Xt h.2.2.2.2 he⟩
def qr0(M6:Nat->Prop)(l:List Tm)(wd:World)(TD:Value)(wx:World):Prop:=∃(a:Nat)(v:PE),TD=.pointer (some ⟨a,0,none⟩)/\qiR M6 wd wx a v l
def SDb(g i gi S g13 g6:Nat)(v s:PE)(w:World):Prop:=w.cell? ⟨g,i,none⟩=some (.slice (some ⟨gi,0,none⟩) S S)/\P4 w g13 v/\P4 w g6 s
theorem SDb.ext{g i gi S g13 g6:Nat}{v s:PE}{w w':World}(h:SDb g i gi S g13 g6 v s w)(he:Ext w w'):SDb g i gi S g13 g6 v s w':=⟨by rw[he.cell (dM _ _ h.1)];exact h.1,h.2.1.ext he,h.2.2.ext he⟩
end Go.Proofs.YtaafefeafonhdaaGreat
