/- Mi -/
import Derived.Test.YtmcfpnmoklnhoaaGreatMh
set_option linter.unusedVariables false
set_option maxRecDepth 100000
set_option maxHeartbeats 400000000
set_option linter.unusedSimpArgs false
namespace Go.Proofs.YtmcfpnmoklnhoaaGreat
open Go.RowKit
def ni(lv:Int):List Tm:=if 1<=lv/\lv<=4 then[(1,xp lv.toNat 1)]else[]
theorem qnS(M:Nat->Prop)(lv:Int)(w:World)(hM:Mb M w):Calls Tryz.prog 52 #[.int .i64 lv] w (dH M w 4 (ni lv)):=by
 have hE:Ext w (w.alloc (.cells zA 33)):=(Ext.refl w).alloc _;have hB:=ak.bf w zA 33 4 rfl;have eG:Mb (Mx M w.heap.size (w.heap.size+1)) (w.alloc (.cells zA 33)):=Mx.mb hM (by simp) (by simp);have aS:=λW=>qdn lv W
 by_cases hl:1<=lv/\lv<=4
 ·have nT:ja lv=true:=by unfold ja;simp[hl]
  rw[nT]at aS;have aO:=Lib.hid aS
  have hV:ni lv=[(1,xp lv.toNat 1)]:=by unfold ni;rw[if_pos hl]
  obtain⟨D,rfl⟩:∃D:Nat,lv=(D:Int)+1:=⟨(lv-1).toNat,by omega⟩
  have jk:D+1<=4:=by omega
  rw[show((D:Int)+1).toNat=D+1 by omega]at hV;have HV:=Lib.hid hV;clear aS nT hl hV
  go_enter Tryz.func52,Tryz.ntmps52
  go_wp2_with (fail);refine(aO.out _).mono ?_;rintro e w1 ⟨rfl,rfl⟩;go_wp2_with (fail);refine(Jz (M:=Mx M w.heap.size (w.heap.size+1)) 1 _ eG (by omega) (by omega)).mono ?_;rintro e w2 ⟨d0,d1,rfl,hc,aA⟩;obtain⟨b2,a2,n2,p2,rfl,rfl⟩:=hc.form;have rQ:=qcE (x:=PE.z) (y:=⟨0,b2,a2,n2,p2,none,0,0⟩) (L:=D) (eG.ext aA) (CR.zero _ _ D) (CR.const hc D);have aT:Ext w2 (w2.alloc (.cells #[.int .i64 0,.bool false,.slice none 0 0,.slice none 0 0,.int .i64 0,.bool b2,.slice a2 n2 p2,.slice none 0 0] 33)):=(Ext.refl w2).alloc _
  have PD:CR (Mx M w.heap.size (w.heap.size+1)) (w2.alloc (.cells #[.int .i64 0,.bool false,.slice none 0 0,.slice none 0 0,.int .i64 0,.bool b2,.slice a2 n2 p2,.slice none 0 0] 33)) 4 (.int .i64 ((D:Int)+1)) (.bool false) (.slice none 0 0) (.slice (some ⟨w2.heap.size,0,none⟩) 2 2) (ni ((D:Int)+1)):=by
   refine(CR.bZ (CR.node (D:=D) (P:=λi=>if i=0 then[]else[(1,Mo.zero)]) jk (by omega) (by omega) (Nat.le_refl _) (by unfold maxLen;omega) (by simp) ((eG.ext aA).new (Nat.le_refl _)) (λi hi=>?_) ?_) ?_).up jk
   ·obtain⟨b,off,e,_,_,_,_,hk⟩:=dV.at rQ i hi;simp only[Option.some.injEq,Addr.mk.injEq,and_true]at e;obtain⟨rfl,rfl⟩:=e;exact hk
   ·intro hs;have:=hs Mo.zero;simp[aB]at this
   ·rw[HV.out];intro m;rw[fK,fK,EO];simp[shift,aB,Mo.qdL]
  obtain⟨⟨q0,q1,q2,q3⟩,⟨f0,f1,f2,f3⟩,⟨r0,r1,r2,r3⟩,HF⟩:=iW (M:=M) (w:=w) (y:=⟨(D:Int)+1,false,none,0,0,some ⟨w2.heap.size,0,none⟩,2,2⟩) ((hB.ext aA).ext aT) (Mx.at (by omega)) (by omega) ((hE.trans aA).trans aT) PD Mx.sub;clear hE hB eG aA aT rQ PD hc;go_wp2;exact bodyPost_ret (v:=.agg #[.int .i64 ((D:Int)+1),.bool false,.slice none 0 0,.slice (some ⟨w2.heap.size,0,none⟩) 2 2]) (by simp[results,Tryz.results52,go_sem,r0,r1,r2,r3]) rfl HF.out
 ·have nT:ja lv=false:=by unfold ja;simp only[decide_eq_false_iff_not];exact hl
  rw[nT]at aS;have aO:=Lib.hid aS
  have HV:Hid (ni lv=[]):=by show _=_;unfold ni;rw[if_neg hl]
  clear aS nT hl
  go_enter Tryz.func52,Tryz.ntmps52
  go_wp2_with (fail);refine(aO.out _).mono ?_;rintro e w1 ⟨rfl,rfl⟩;go_wp2;exact bodyPost_ret (v:=.agg zA) (by simp[results,Tryz.results52,go_sem]) rfl ⟨PE.z,rfl,by rw[HV.out];exact CR.zero _ _ _,hE⟩
theorem qxM(L n:Nat)(P:Nat->List Tm)(c:Nat)(h:∀i,i<n->(P i).length<=c):(aJ L n P).length<=n*c:=by
 induction n with
 |zero=>simp[EO]
 |succ n ih=>
  rw[fK,List.length_append,Nat.add_mul,Nat.one_mul];have h1:=ih λi hi=>h i (by omega);have h2:=h n (by omega);simp only[shift,List.length_map];omega
theorem TN(B:Nat):∀(d:Nat)(t:RT d),fC d t=true->Cv d t->bn B (terms d t)->(terms d t).length<=(B+1)^(kR d t).toNat
 |0,_,_,_,_=>Nat.zero_le _
 |d+1,t,h,ho,hB=>by
  show _<=(B+1)^t.1.toNat
  by_cases hl:t.1=0
  ·rw[vN (by omega),hl];exact Nat.le_refl _
  ·obtain⟨g1,g2,g3,g4,g5,g6⟩:=wm h hl;rw[yC g1.1 g1.2]at hB⊢;obtain⟨D,hD⟩:∃D:Nat,t.1.toNat=D+1:=⟨t.1.toNat-1,by omega⟩;rw[hD]at hB⊢
   have bT:∀i,i<t.2.2.1->dN D (terms d (t.2.2.2 i)):=λi hi=>by
    have:=wV h hl i hi
    rwa[hD,Nat.add_sub_cancel]at this
   cases d with
   |zero=>
    have:=(g5 0 (by omega)).2;simp[fC]at this
   |succ d=>
    have fF:¬ae (terms (d+1) (t.2.2.2 (t.2.2.1-1))) []:=λhs=>by
     obtain⟨m,hm⟩:=y7 _ _ (g5 (t.2.2.1-1) (by omega)).2 (ho.2 _ (by omega)) g6;exact hm (hs m)
    obtain⟨h1,h2⟩:=BD (by omega) (by omega) bT fF hB;refine Nat.le_trans (qxM (D+1) t.2.2.1 _ ((B+1)^D) λi hi=>?_) ?_
    ·have h3:=TN B (d+1) (t.2.2.2 i) (g5 i hi).2 (ho.2 i hi) (h2 i hi);refine Nat.le_trans h3 (Nat.pow_le_pow_right (by omega) ?_);have:=(g5 i hi).1;omega
    ·rw[Nat.pow_succ,Nat.mul_comm];exact Nat.mul_le_mul_left _ h1
theorem TM(B:Nat):∀(d:Nat)(t:RT d),fC d t=true->Cv d t->bn B (terms d t)->∀s∈terms d t,∀k,s.2.get k<=B
 |0,_,_,_,_,s,hs,_=>by cases hs
 |d+1,t,h,ho,hB,s,hs,k=>by
  by_cases hl:t.1=0
  ·rw[vN (by omega)]at hs;simp only[List.mem_singleton]at hs;subst hs;show Mo.zero.get k<=B;rw[ve];omega
  ·obtain⟨g1,g2,g3,g4,g5,g6⟩:=wm h hl;rw[yC g1.1 g1.2]at hB hs;obtain⟨D,hD⟩:∃D:Nat,t.1.toNat=D+1:=⟨t.1.toNat-1,by omega⟩;rw[hD]at hB hs
   have bT:∀i,i<t.2.2.1->dN D (terms d (t.2.2.2 i)):=λi hi=>by
    have:=wV h hl i hi
    rwa[hD,Nat.add_sub_cancel]at this
   cases d with
   |zero=>
    have:=(g5 0 (by omega)).2;simp[fC]at this
   |succ d=>
    have fF:¬ae (terms (d+1) (t.2.2.2 (t.2.2.1-1))) []:=λhs=>by
     obtain⟨m,hm⟩:=y7 _ _ (g5 (t.2.2.1-1) (by omega)).2 (ho.2 _ (by omega)) g6;exact hm (hs m)
    obtain⟨h1,h2⟩:=BD (by omega) (by omega) bT fF hB;obtain⟨i,hi,u,hu,rfl⟩:=EN hs;have h3:=TM B (d+1) (t.2.2.2 i) (g5 i hi).2 (ho.2 i hi) (h2 i hi) u hu k;show(Mo.add u.2 (xp (D+1) (i:Int))).get k<=B;rw[gL,dX _ _ _ (by omega) (by omega)]
    by_cases hk:k=D+1
    ·rw[if_pos hk,hk];have:=bT i hi u hu (D+1) (by omega) (by omega);omega
    ·rw[if_neg hk];omega
theorem MV{B:Nat}{l r:List Tm}(hs:ae l r)(h:bn B r):bn B l:=h.bZ hs.symm
theorem qag(lv:Int):bn 1 (ni lv):=by
 unfold ni
 split
 ·rename_i h;intro m hm k
  have:m=xp lv.toNat 1:=by
   refine Classical.byContradiction λhc=>hm ?_;simp only[aB];rw[if_neg (λe=>hc e.symm)];rfl
  rw[this,dX _ _ _ (by omega) (by omega)]
  split<;>omega
 ·intro m hm;exact absurd rfl hm
abbrev M0:Nat->Prop:=λ_=>False
theorem yt(w:World):Mb M0 w:=λ_ h=>h.elim
def Zo(g:Nat)(y:PE)(b off:Nat)(c1 c2:Value)(w:World):Prop:=P4 w g y/\w.cell? ⟨b,off+1,none⟩=some c1/\w.cell? ⟨b,off+1+1,none⟩=some c2/\w.cell? ⟨b,off+4,none⟩=some (.int .i64 1)
theorem Zo.ext{g:Nat}{y:PE}{b off:Nat}{c1 c2:Value}{w w':World}(h:Zo g y b off c1 c2 w)(he:Ext w w'):Zo g y b off c1 c2 w':=by
 have hb:=World.block_lt_of_cell? _ _ h.2.1;exact⟨h.1.ext he,by rw[he.cell hb];exact h.2.1,by rw[he.cell hb];exact h.2.2.1,by rw[he.cell hb];exact h.2.2.2⟩
def KI(M:Nat->Prop)(w:World)(v:Value)(n:Nat)(L C K:Nat->Int):Prop:=
 n<=1099511627776/\((n=0/\∃a c,v=.slice a 0 c)\/∃b off cap,v=.slice (some ⟨b,off,none⟩) n cap/\n<=cap/\cap<=maxLen/\(b<w.heap.size/\¬M b)/\∀i,i<n->w.cell? ⟨b,off+i*3,none⟩=some (.int .i8 (L i))/\w.cell? ⟨b,off+i*3+1,none⟩=some (.int .i16 (C i))/\w.cell? ⟨b,off+i*3+2,none⟩=some (.int .u8 (K i))/\
  (-128<=L i/\L i<=127)/\(-32768<=C i/\C i<=32767)/\(0<=K i/\K i<=255))
theorem KI.kp{M:Nat->Prop}{w w':World}{v:Value}{n:Nat}{L C K:Nat->Int}(h:KI M w v n L C K)(he:Kp M w w'):KI M w' v n L C K:=by
 obtain⟨h0,h|⟨b,off,cap,h1,h2,h3,h4,h5⟩⟩:=h
 ·exact⟨h0,.inl h⟩
 ·exact⟨h0,.inr ⟨b,off,cap,h1,h2,h3,⟨Nat.lt_of_lt_of_le h4.1 he.1,h4.2⟩,λi hi=>by rw[he.cell h4.1 h4.2,he.cell h4.1 h4.2,he.cell h4.1 h4.2];exact h5 i hi⟩⟩
theorem KI.ext{M:Nat->Prop}{w w':World}{v:Value}{n:Nat}{L C K:Nat->Int}(h:KI M w v n L C K)(he:Ext w w'):KI M w' v n L C K:=h.kp (Kp.jC he)
def qmV(f:Nat->Nat):Nat->Nat
 |0=>0
 |n+1=>qmV f n+f n
def szE(A:Nat):(d:Nat)->RT d->Nat
 |0,_=>1
 |d+1,t=>if t.1<=0 then az t.2.1.val.natAbs+1 else if 4<t.1 then 1 else 1+qmV (λi=>szE A d (t.2.2.2 i)+A+1) t.2.2.1
def qqN(d:Nat)(t:RT d):Prop:=(terms d t).length<=4^d/\aC (terms d t)<=4^d*32768/\∀s∈terms d t,∀k,s.2.get k<=3*(d:Int)
def Sml(d:Nat)(t:RT d):Prop:=qqN d t/\∀A,szE A d t<=9^d*(A+3)
def Zx(g:Nat)(L C:Int)(w:World):Prop:=w.cell? ⟨g,0,none⟩=some (.int .i8 L)/\w.cell? ⟨g,1,none⟩=some (.int .i16 C)
theorem Zx.ext{g:Nat}{L C:Int}{w w':World}(h:Zx g L C w)(he:Ext w w'):Zx g L C w':=by
 have hb:=World.block_lt_of_cell? _ _ h.1;exact⟨by rw[he.cell hb];exact h.1,by rw[he.cell hb];exact h.2⟩
def BT(M:Nat->Prop)(w:World)(x:PE)(l:List Tm):Prop:=∃t:RT 7,RR M w 7 t (.int .i64 x.lv) (.bool x.b) (.slice x.a x.n x.p) (.slice x.ka x.kn x.kp)/\Sml 7 t/\terms 7 t=l
section
variable{M M':Nat->Prop}{w w':World}{x:PE}{l:List Tm}
theorem BT.ext(h:BT M w x l)(he:Ext w w'):BT M w' x l:=by
 obtain⟨t,h1,h2⟩:=h;exact⟨t,RR.ext h1 he,h2⟩
theorem BT.nn(h:BT M w x l):∀m:Mo,m.nn=false->aB l m=0:=by
 obtain⟨t,_,h2,h3⟩:=h;intro m hm;refine qh λs hs e=>?_;have:=Wo 7 t s (by rw[h3];exact hs);rw[e,hm]at this;cases this
end
section
variable{P:Program}{ops:Array Oper}{Q:Exit->Act->World->Prop}{md:Region.Mode}{S:World->Prop}{last:Nat}
end
section
variable{l m:List Tm}{W0 w w':World}{o7 o8:Option Nat}{ra rb:Option PE}{x y:PE}
end
theorem qyF(x y:PE)(l r:List Tm)(w:World)(b:Bool)(h:PI M0 w x l)(k:PI M0 w y r)(hb:b=true↔ae l r):Calls Tryz.prog 16 #[.agg (ah x),.agg (ah y)] w λe w'=>e=.returned (.bool b)/\Ext w w':=by
 refine(qyt M0 x y l r w (yt w) h k).mono ?_;rintro e w' ⟨c,rfl,hc,he⟩
 have:c=b:=by
  cases c<;>cases b<;>simp_all
 exact⟨by rw[this],he⟩
def Zz(c:Nat)(x y:PE)(g7 g8:Nat)(a b:PE)(w:World):Prop:=P4 w c x/\P4 w (c+1) y/\P4 w g7 a/\P4 w g8 b
theorem Zz.ext{c:Nat}{x y:PE}{g7 g8:Nat}{a b:PE}{w w':World}(h:Zz c x y g7 g8 a b w)(he:Ext w w'):Zz c x y g7 g8 a b w':=⟨h.1.ext he,h.2.1.ext he,h.2.2.1.ext he,h.2.2.2.ext he⟩
end Go.Proofs.YtmcfpnmoklnhoaaGreat
