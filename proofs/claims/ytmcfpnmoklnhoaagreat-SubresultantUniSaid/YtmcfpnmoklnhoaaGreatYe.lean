/- Ye -/
import Derived.Test.YtmcfpnmoklnhoaaGreatYd
import Derived.Test.YtmcfpnmoklnhoaaGreatMw
import Derived.Test.YtmcfpnmoklnhoaaGreatTf
import Derived.Test.YtmcfpnmoklnhoaaGreatXb
import Derived.Test.YtmcfpnmoklnhoaaGreatQc
import Derived.Test.YtmcfpnmoklnhoaaGreatWb
import Derived.Test.YtmcfpnmoklnhoaaGreatMb
import Derived.Test.YtmcfpnmoklnhoaaGreatMq
set_option linter.unusedVariables false
set_option maxRecDepth 100000
set_option maxHeartbeats 400000000
set_option linter.unusedSimpArgs false
namespace Go.Proofs.YtmcfpnmoklnhoaaGreat
open Go.ChangeShapes Go.WideShapes Go.ChangeAt Go.RowKit Go.Deep
def yX(W:World)(a:Option Addr)(n c:Nat):Prop:=n<=c/\c<=maxLen/\(a=none->c=0)/\(n=0\/∃(b off:Nat)(d:Nat->Nat),a=some ⟨b,off,none⟩/\b<W.heap.size/\∀i,i<n->W.cell? ⟨b,off+i,none⟩=some (.int .u32 (d i))/\d i<4294967296)
theorem yX.ext{W W':World}{a:Option Addr}{n c:Nat}(h:yX W a n c)(he:Ext W W'):yX W' a n c:=by
 obtain⟨h1,h2,h3,h4⟩:=h;refine⟨h1,h2,h3,h4.imp id ?_⟩;rintro⟨b,off,d,e,hb,hc⟩;exact⟨b,off,d,e,Nat.lt_of_lt_of_le hb he.size,λi hi=>by rw[he.cell hb];exact hc i hi⟩
theorem yX.raw{W:World}{a:Option Addr}{n c:Nat}(h:yX W a n c):qgj W a n c:=by
 obtain⟨h1,h2,h3,h4⟩:=h;refine⟨by unfold maxLen at h2;omega,λhL=>?_⟩;rcases h4 with rfl|⟨b,off,d,rfl,hb,hc⟩
 ·exact⟨λ_=>0,hL,λi hi=>absurd hi (Nat.not_lt_zero _),.inl ⟨rfl,a,c,rfl,h2,h3⟩⟩
 ·exact⟨d,hL,λi hi=>(hc i hi).2,.inr ⟨b,off,c,rfl,h1,h2,⟨hb,λh=>h⟩,λi hi=>(hc i hi).1⟩⟩
section
variable{H:Type}{enc:TypeId × Value->H}{W:World}
theorem qxt{fuel:Nat}{v:Value}{x:DataW H × List MemPlace}(h:DataW.trod enc Tryz.prog W 0 (λ_=>true) true fuel 28 [v]=some x):
 ∃a n cap,v=.slice a n cap/\yX W a n cap:=by
 rcases open_ints Tryz.underlying28 Tryz.underlying155 (by kernel_rfl) h with⟨h0,_⟩|⟨a,len,cap,zs,hcs,hb,hl,hm,hz,_,hc,hwf⟩
 ·simp only[List.cons.injEq,and_true]at h0;exact⟨none,0,0,h0,Nat.le_refl _,Nat.zero_le _,λ_=>rfl,.inl rfl⟩
 ·simp only[List.cons.injEq,and_true]at hcs;refine⟨some a,len,cap,hcs,hl,hm,(λh=>by cases h),?_⟩;rw[if_pos rfl]at hz
  have hw:∀i,i<len->0<=zs.getD i 0/\zs.getD i 0<4294967296:=by
   intro i hi
   have hi':i<zs.length:=by omega
   have h1:=hwf (zs.getD i 0) (by rw[List.getD_eq_getElem?_getD,List.getElem?_eq_getElem hi'];simp);simp[Lit.wf,IntKind.min,IntKind.max,IntKind.signed,IntKind.bits]at h1
   have h2:zs.getD i 0=zs[i]?.getD 0:=by simp
   rw[h2];omega
  rcases Nat.eq_zero_or_pos len with h0|h0
  ·exact .inl h0
  ·refine .inr ?_;have mH:=hc 0 (by omega);rw[qqR]at mH;have Ml:=World.cell?_spot mH;have UH:=World.block_lt_of_cell? _ _ mH;obtain⟨b,o,s⟩:=a;simp only at Ml UH;subst Ml;refine⟨b,o,λi=>(zs.getD i 0).toNat,rfl,UH,λi hi=>⟨?_,by have:=hw i hi;show(zs.getD i 0).toNat<4294967296;omega⟩⟩;have h3:=hc i (by omega);rw[DN]at h3;rw[h3];have:=hw i hi;simp only[Option.some.injEq,Value.int.injEq,true_and];omega
theorem qxs{fuel:Nat}{v0 v1:Value}{x:DataW H × List MemPlace}(h:DataW.trod enc Tryz.prog W 0 (λ_=>true) true fuel 30 [v0,v1]=some x):
 ∃b a n cap,v0=.bool b/\v1=.slice a n cap/\yX W a n cap:=by
 obtain⟨y0,y1,q,_,_,e0,e1⟩:=trod_struct2 Tryz.underlying30 h;rw[show Tryz.prog.cellsOf 4=1 by kernel_rfl]at e0;rw[show Tryz.prog.cellsOf 28=1 by kernel_rfl]at e1;obtain⟨b,hb,_⟩:=DataW.trod_bool Tryz.underlying4 e0;simp at hb;obtain⟨a,n,cap,hv,hn⟩:=qxt e1;exact⟨b,a,n,cap,hb,hv,hn⟩
def KZ(W:World)(a:Option Addr)(n cap:Nat)(X:Nat->IE):Prop:=IJ W a n cap X/\∀i,i<n->yX W (X i).a (X i).n (X i).p
theorem qm7{base:Nat}{v:Value}{d:DataW H}{ps:List MemPlace}(hv:Value.okWide Tryz.prog W .any base 23 v)(h:DataW.Trod enc Tryz.prog W 0 (λ_=>true) true 23 v d ps):∃a n cap X,v=.slice a n cap/\KZ W a n cap X:=by
 obtain⟨fuel,h⟩:=h;have hu:Tryz.prog.underlying 23=some (.slice 30):=Tryz.underlying23
 have dO:Tryz.prog.cellsOf 30=2:=by kernel_rfl
 have hv1:v.cells.toList=[v]:=by
  obtain⟨a,n,c,rfl⟩:=okWide_slice hu hv;rfl
 rw[hv1]at h;rcases open_slice hu h with⟨h0,_⟩|⟨a,len,cap,m,n,D,Pl,hcs,hb,hl,hm,hmm,_,hi⟩
 ·simp only[List.cons.injEq,and_true]at h0;exact⟨none,0,0,λ_=>default,h0,⟨Nat.le_refl _,Nat.zero_le _,λ_=>rfl,λi hi=>absurd hi (Nat.not_lt_zero _)⟩,λi hi=>absurd hi (Nat.not_lt_zero _)⟩
 ·simp only[List.cons.injEq,and_true]at hcs
  have Ml:a.spot=none/\a.block<W.heap.size:=by
   rw[hcs]at hv;simp only[Value.okWide,hu,Cell.okWide,Cell.ok]at hv;obtain⟨_,_,_,hs,row,cells,hsh,_⟩:=hv;refine⟨hs,?_⟩;unfold World.shape? at hsh
   split at hsh
   ·rename_i c e r hh;exact(Array.getElem?_eq_some_iff.1 hh).1
   ·cases hsh
  have Ey:len<=m:=by rw[hmm,if_pos rfl];exact hl
  rw[dO]at hi;obtain⟨b,off,sp⟩:=a;obtain⟨rfl,hblk⟩:=Ml;simp only at hblk
  have oG:∀i,∃x:IE,i<len->(W.cell? ⟨b,off+i*2,none⟩=some (.bool x.b)/\W.cell? ⟨b,off+i*2+1,none⟩=some (.slice x.a x.n x.p))/\yX W x.a x.n x.p:=by
   intro i
   by_cases UU:i<len
   ·obtain⟨cs',h1,h2⟩:=hi i (by omega);obtain⟨_,hlen,hat⟩:=World.cells?_some h1
    match cs',hlen with
    |[u0,u1],_=>
     have c0:W.cell? (((⟨b,off,none⟩:Addr).add (i*2)).add 0)=some u0:=hat 0 (by omega);have c1:W.cell? (((⟨b,off,none⟩:Addr).add (i*2)).add 1)=some u1:=hat 1 (by omega);rw[DN,DN]at c0 c1;obtain⟨bb,a',n',p',rfl,rfl,zW⟩:=qxs (v0:=u0) (v1:=u1) h2;exact⟨⟨bb,a',n',p'⟩,λ_=>⟨⟨c0,c1⟩,zW⟩⟩
   ·exact⟨default,λh=>absurd h UU⟩
  refine⟨some ⟨b,off,none⟩,len,cap,λi=>(oG i).choose,hcs,⟨hl,hm,λe=>(by cases e),λi hi=>?_⟩,λi hi=>((oG i).choose_spec hi).2⟩;have:=(oG i).choose_spec hi;exact⟨b,off,rfl,hblk,this.1.1,this.1.2,this.2.raw⟩
end
theorem qwS{W:World}{a:Option Addr}{n c:Nat}(h:yX W a n c):
 Calls Tryz.prog 84 #[.slice a n c] W λe w'=>∃b,e=.returned (.bool b)/\W=w':=by
 have HT:Hid (Calls Tryz.prog 134 #[.slice a n c] W λe w'=>∃k,e=.returned (.slice a k c)/\k<=9223372036854775807/\W=w'):=by
  obtain⟨h1,h2,h3,h4⟩:=h;rcases h4 with rfl|⟨b,off,d,rfl,hb,hc⟩
  ·exact(qoy a c h2 h3 W).mono λe w'⟨h,k⟩=>⟨0,h,by omega,k⟩
  ·refine(qdy b off n c d W h1 h2 λi hi=>(hc i hi).1).mono λe w'⟨h,k⟩=>⟨_,h,?_,k⟩;have:=EU d n;unfold maxLen at h2;omega
 clear h
 go_enter Tryz.func84,Tryz.ntmps84
 go_wp2_with (fail);refine HT.out.mono ?_;rintro e w' ⟨k,rfl,hk,rfl⟩;go_wp2;go_ret;exact⟨_,rfl,rfl⟩
theorem qvZ{W:World}{b:Bool}{a:Option Addr}{n c:Nat}(h:yX W a n c):
 Calls Tryz.prog 28 #[.agg #[.bool b,.slice a n c]] W λe w'=>(∃s:Int,e=.returned (.int .i64 s)/\(s=0\/s=1\/s= -1))/\Ext W w':=by
 have HN:=Lib.hid (h.ext ((Ext.refl W).alloc (.cells #[.bool b,.slice a n c] 30)));clear h
 go_enter Tryz.func28,Tryz.ntmps28
 go_wp2_with (fail);refine(qwS HN.out).mono ?_;rintro e w1 ⟨z,rfl,rfl⟩;cases z
 ·cases b
  ·go_wp2;go_ret;exact⟨⟨_,rfl,.inr (.inl rfl)⟩,(Ext.refl W).alloc _⟩
  ·go_wp2;go_ret;exact⟨⟨_,rfl,.inr (.inr rfl)⟩,(Ext.refl W).alloc _⟩
 ·go_wp2;go_ret;exact⟨⟨_,rfl,.inl rfl⟩,(Ext.refl W).alloc _⟩
theorem qzX(a:Option Addr)(n cap:Nat)(X:Nat->IE)(w0 w:World)(h:KZ w0 a n cap X)(kM:Ext w0 w):
 Calls Tryz.prog 78 #[.slice a n cap] w λe w'=>(∃k,e=.returned (.slice a k cap)/\k<=n)/\Ext w w':=by
 have kP:=h.1.1;have gm:=h.1.2.1;have wH:=h.1.2.2.1;have HU:=Lib.hid h;have gB:=Lib.hid kM;clear h kM;unfold maxLen at gm
 go_enter Tryz.func78,Tryz.ntmps78
 go_wp2
 go_loopw [3] (λi wr=>∃k:Nat,k<=n/\i=.int .i64 k/\Ext w wr) (λi _=>(intOf i).toNat)
 case atStart=>exact⟨n,Nat.le_refl _,rfl,Ext.refl _⟩
 case round=>
  obtain⟨k,hk,rfl,bW⟩:=hrel
  by_cases fJ:k=0
  ·subst fJ;go_wp2;go_ret;exact⟨⟨0,rfl,Nat.zero_le _⟩,bW⟩
  ·have iq:0<k:=by omega
   obtain⟨b,off,Ah,hb,x0,x1,_⟩:=HU.out.1.2.2.2 (k-1) (by omega);subst Ah;have aA:=gB.out.trans bW;rw[<-aA.cell hb]at x0 x1;have iH:b<wr.heap.size:=Nat.lt_of_lt_of_le hb aA.size;have HV:=Lib.hid ((HU.out.2 (k-1) (by omega)).ext aA)
   have j1:(0:Int)<=(k:Int)-1:=by omega
   have j2:((k:Int)-1).toNat=k-1:=by omega
   have j3:(k:Int)-1<(n:Int):=by omega
   clear aA hb;go_wp2_with (fail);refine(qvZ HV.out).mono ?_;rintro e w1 ⟨⟨s,rfl,hs⟩,af⟩;have PL:=bW.trans af;clear x0 x1 af bW iH
   by_cases hz:s=0
   ·have t0:(s==0)=true:=by simp[hz]
    clear hs;go_wp2
    go_roundw
    case rel=>exact⟨k-1,by omega,by go_num,PL⟩
    case measure=>simp[intOf];omega
   ·have t0:(s==0)=false:=by simp[hz]
    clear hs;go_wp2;go_ret;exact⟨⟨k,rfl,hk⟩,PL⟩
theorem qzP(a:Option Addr)(n cap:Nat)(X:Nat->IE)(w0 w:World)(h:KZ w0 a n cap X)(kM:Ext w0 w)(hn:n<=1000000):
 Calls Tryz.prog 23 #[.slice a n cap] w λe w'=>(∃k:Nat,e=.returned (.int .i64 ((k:Nat)-1))/\k<=n)/\Ext w w':=by
 have CT:=Lib.hid (qzX a n cap X w0 w h kM);clear h kM
 go_enter Tryz.func23,Tryz.ntmps23
 go_wp2_with (fail);refine CT.out.mono ?_;rintro e w1 ⟨⟨k,rfl,hk⟩,af⟩;go_wp2;go_ret;exact⟨⟨k,rfl,hk⟩,af⟩
end Go.Proofs.YtmcfpnmoklnhoaaGreat
namespace Go.Proofs.YtmcfpnmoklnhoaaGreat
open Go.RowKit
theorem qoO{P:Program}(w:World){ops:Array Oper}{rest:List Oper}{o:Oper}{a:Act}{Q:Exit->Act->World->Prop}(iF:o.guard=none)(s x:Operand)(t:TypeId)
 (ho:o.op=.call {callee:=.builtin .append,args:= #[s,x],argTypes:= #[t,t]})
 (base:Nat) (e:TypeId) (i:TypeInfo) (z:Value) (k bytes:Nat) (ht:P.underlying t=some (.slice e)) (hi:P.info? e=some i) (hz:i.zero=some z)
 (Qi:i.size=k) (xZ:i.bytes=bytes) (Cr:z.cells.size=k) (hsz:0<k)
 (v:Value) (n:Nat) (f:Nat->Value) (hs:a.eval s=v) (hown:Own w base e k v n f)
 (q off m c:Nat) (src:Nat->Value) (hx:a.eval x=.slice (some ⟨q,off,none⟩) m c) (hB:∀j,j<m*k->w.cell? ⟨q,off+j,none⟩=some (src j)) (h1:∀j,j<m*k->(src j).oneCell'=true) (hm:0<m)
 (DY:n+m<=maxLen) (Px:(n+m)*bytes<=140737488355328) (hbase:base<=w.heap.size)
 (h:∀g cap w',Own w' base e k (.slice (some ⟨g,0,none⟩) (n+m) cap) (n+m) (app f (n*k) src)->w.grownBy w' v.ownBlock->(v.ownBlock=some g\/w.heap.size<=g)->g<w'.heap.size->wpList P ops Q rest (a.put o.dst (.slice (some ⟨g,0,none⟩) (n+m) cap)) w'):
 wpList P ops Q (o::rest) a w:=by
 refine wpList_append_lies w iF s x t ho base e i z k bytes ht hi hz Qi xZ Cr hsz v n (rq f (n*k)) hs hown.qdx ⟨q,off,none⟩ m c (rq src (m*k)) hx (wX _ _) ?_ ?_ hm DY Px hbase w.heap.size rfl ?_
 ·intro j u hu
  have hj:j<m*k:=by
   have:=(List.getElem?_eq_some_iff.1 hu).1;simpa[wX]using this
  rw[ER _ _ _ hj]at hu;cases hu;rw[DN];exact hB j hj
 ·intro u hu;simp only[rq,List.mem_map,List.mem_range]at hu;obtain⟨j,hj,rfl⟩:=hu;exact h1 j hj
 ·intro g cap w' ho hg hat hlt;rw[qdl,show n*k+m*k=(n+m)*k from by rw[Nat.add_mul]]at ho;exact h g cap w' (Own.ofRow ho) hg (hat.imp id (λe=>by omega)) hlt
theorem IJ.qyo{W:World}{a:Option Addr}{n cap:Nat}{X:Nat->IE}(h:IJ W a n cap X)(k:Nat)(hk:k<=6)(hn:n<=10)(hX:∀i,i<n->(X i).n<=k):∃z,bg M0 W a n cap X z/\∀i,i<n->(z i).natAbs<4294967296^k:=by
 obtain⟨h1,h2,h3,h4⟩:=h
 have oG:∀i,i<n->∃z:Int,dB M0 W (.bool (X i).b) (.slice (X i).a (X i).n (X i).p) z/\z.natAbs<4294967296^k:=λi hi=>by
  obtain⟨b,off,_,_,_,_,h5⟩:=h4 i hi;obtain⟨d,hd⟩:=h5.2 (by have:=hX i hi;omega);refine⟨bP (X i).b (nv d (X i).n),⟨(X i).b,nv d (X i).n,rfl,⟨_,d,hd,rfl⟩,rfl⟩,?_⟩;rw[tu];exact Nat.lt_of_lt_of_le (pO d _ hd.2.1) (Nat.pow_le_pow_right (by omega) (hX i hi))
 obtain⟨z,hz⟩:=pick 0 oG;refine⟨z,⟨by omega,h1,h2,h3,λi hi=>?_⟩,λi hi=>(hz i hi).2⟩;obtain⟨b,off,e,hb,c0,c1,_⟩:=h4 i hi;exact⟨b,off,e,hb,λh=>h,c0,c1,(hz i hi).1⟩
def qV(x:Nat->IE):Nat->Value:=λj=>if j%2=0 then .bool (x (j/2)).b else .slice (x (j/2)).a (x (j/2)).n (x (j/2)).p
theorem ql2(x:Nat->IE)(i:Nat):qV x (i*2)=.bool (x i).b:=by unfold qV;rw[if_pos (by omega),show i*2/2=i by omega]
theorem ql3(x:Nat->IE)(i:Nat):qV x (i*2+1)=.slice (x i).a (x i).n (x i).p:=by unfold qV;rw[if_neg (by omega),show(i*2+1)/2=i by omega]
theorem ql4(x:Nat->IE)(j:Nat):(qV x j).oneCell'=true:=by
 unfold qV
 split<;>rfl
theorem IJ.lies{W:World}{a:Option Addr}{n cap:Nat}{X:Nat->IE}(h:IJ W a n cap X)(hn:1<=n):∃b off,a=some ⟨b,off,none⟩/\b<W.heap.size/\∀j,j<n*2->W.cell? ⟨b,off+j,none⟩=some (qV X j):=by
 obtain⟨b,off,e,hb,_⟩:=h.2.2.2 0 (by omega);refine⟨b,off,e,hb,λj hj=>?_⟩;obtain⟨b',off',e',_,c0,c1,_⟩:=h.2.2.2 (j/2) (by omega);rw[e]at e';simp only[Option.some.injEq,Addr.mk.injEq,and_true]at e';obtain⟨rfl,rfl⟩:=e';rcases Nat.mod_two_eq_zero_or_one j with h2|h2
 ·rw[show j=j/2*2 by omega,ql2];exact c0
 ·rw[show j=j/2*2+1 by omega,ql3];exact c1
def XX(n1:Nat)(X1 X2:Nat->IE)(i:Nat):IE:=if i<n1 then X1 i else X2 (i-n1)
theorem qqX{n1:Nat}{X1 X2:Nat->IE}(f:Nat->Value)(j:Nat)(hf:∀j,j<n1*2->f j=qV X1 j):app f (n1*2) (qV X2) j=qV (XX n1 X1 X2) j:=by
 unfold app
 split
 ·rename_i h;rw[hf j h];unfold qV XX;rw[if_pos (show j/2<n1 by omega)]
 ·rename_i h;unfold qV XX;rw[if_neg (show¬j/2<n1 by omega),show(j-n1*2)%2=j%2 by omega,show(j-n1*2)/2=j/2-n1 by omega]
def U3(W:World)(a:Option Addr)(n c:Nat)(X:Nat->IE)(k:Nat):Prop:=(∀i,i<n->(X i).n<=3)->∃z,bg M0 W a n c X z/\(∀i,i<n->az (z i).natAbs<=3)/\k=tz z n
theorem qoC(a:Option Addr)(n cap:Nat)(X:Nat->IE)(w0 w:World)(h:KZ w0 a n cap X)(kM:Ext w0 w)(hn:n<=7):
 Calls Tryz.prog 23 #[.slice a n cap] w λe w'=>(∃k:Nat,e=.returned (.int .i64 ((k:Nat)-1))/\k<=n/\U3 w0 a n cap X k)/\Ext w w':=by
 by_cases h3:∀i,i<n->(X i).n<=3
 ·obtain⟨z,hu,hz⟩:=h.1.qyo 3 (by omega) (by omega) h3;refine(Na M0 a n cap X z w (hu.ext kM)).mono ?_;rintro e w' ⟨rfl,he⟩;exact⟨⟨tz z n,rfl,jr z n,λ_=>⟨z,hu,λi hi=>(o9 _ _).2 (hz i hi),rfl⟩⟩,he⟩
 ·refine(qzP a n cap X w0 w h kM (by omega)).mono ?_;rintro e w' ⟨⟨k,rfl,hk⟩,he⟩;exact⟨⟨k,rfl,hk,λh=>absurd h h3⟩,he⟩
theorem qwj(gJ:∀m n:Nat,n<=m->m<=6->yw m n 6=true)(a1:Option Addr)(n1 c1:Nat)(X1:Nat->IE)(a2:Option Addr)(n2 c2:Nat)(X2:Nat->IE)(L:Int)(w:World)(h1:KZ w a1 n1 c1 X1)(h2:KZ w a2 n2 c2 X2)(hL: -9223372036854775808<=L/\L<=9223372036854775807):
 Calls Tryz.prog 5 #[.slice a1 n1 c1,.slice a2 n2 c2,.int .i64 L] w λe w'=>e=.returned (.bool true)/\Ext w w':=by
 have tZ:=Lib.hid h1;have rz:=Lib.hid h2;clear h1 h2
 go_enter Tryz.func5,Tryz.ntmps5
 go_wp2_with (fail);refine(qwi _).mono ?_;rintro e w1 ⟨rfl,af⟩;have aL:=Lib.hid af;clear af
 by_cases hb1:7<n1
 ·have qjP:(7:Int)<(n1:Int):=by omega
  go_wp2;go_ret;exact⟨rfl,aL.out⟩
 have qjP:¬(7:Int)<(n1:Int):=by omega
 by_cases gX:7<n2
 ·have qjQ:(7:Int)<(n2:Int):=by omega
  go_wp2;go_ret;exact⟨rfl,aL.out⟩
 have qjQ:¬(7:Int)<(n2:Int):=by omega
 by_cases lQ:1<=L/\L<=4
 case neg=>
  have CI:Hid (∀W,Calls Tryz.prog 31 #[.int .i64 L] W λe w'=>e=.returned (.bool false)/\w'=W):=λW=>qmf L false ⟨λh=>absurd h (by decide),λh=>absurd h lQ⟩ W;clear lQ;go_wp2_with (fail);refine(CI.out _).mono ?_;rintro e w2 ⟨rfl,rfl⟩;go_wp2;go_ret;exact⟨rfl,aL.out⟩
 have NJ:=Lib.hid lQ;have CI:Hid (∀W,Calls Tryz.prog 31 #[.int .i64 L] W λe w'=>e=.returned (.bool true)/\w'=W):=λW=>qmf L true ⟨λ_=>lQ,λ_=>rfl⟩ W;clear lQ;go_wp2_with (fail);refine(CI.out _).mono ?_;rintro e w2 ⟨rfl,rfl⟩
 have mJ:n1<=7:=by omega
 have lu:n2<=7:=by omega
 have CD1:=Lib.hid (qoC a1 n1 c1 X1 w w2 tZ.out aL.out mJ);have xw:=Lib.hid mJ;have xy:=Lib.hid lu;clear mJ lu CI;go_wp2_with (fail);refine CD1.out.mono ?_;rintro e w3 ⟨⟨k1,rfl,iq,hu1⟩,aT⟩;have eP:=Lib.hid (aL.out.trans aT);have Dx:=Lib.hid hu1;clear aT hu1 CD1 aL
 by_cases h0:k1=0
 ·subst h0
  have hlt:(((0:Nat):Int)-1<0):=by omega
  go_wp2;go_ret;exact⟨rfl,eP.out⟩
 have hlt:¬(((k1:Nat):Int)-1<0):=by omega
 have Hu:=Lib.hid (qoC a2 n2 c2 X2 w w3 rz.out eP.out xy.out);go_wp2_with (fail);refine Hu.out.mono ?_;rintro e w4 ⟨⟨k2,rfl,kz,oJ⟩,aW⟩;have fV:=Lib.hid (eP.out.trans aW);have yS:=Lib.hid oJ;clear aW oJ Hu eP
 by_cases h02:k2=0
 ·subst h02
  have nU:(((0:Nat):Int)-1<0):=by omega
  go_wp2;go_ret;exact⟨rfl,fV.out⟩
 have nU:¬(((k2:Nat):Int)-1<0):=by omega
 go_upto_region 5 with(fail)
 clear hlt nU qjP qjQ hb1 gX;obtain⟨i0,hi,hz0,hz1,hz2⟩:=info_parts Tryz.Jy;obtain⟨b1,o1,rfl,qjU,dR⟩:=tZ.out.1.lies (by omega);obtain⟨b2,o2,rfl,qjV,dO⟩:=rz.out.1.lies (by omega);have Pf:=(Ext.refl w4).alloc (.cells #[] 30);have FU:=ak.bf w4 #[] 30 0 rfl;have hOz:Own (w4.alloc (.cells #[] 30)) w4.heap.size 30 2 (.slice (some ⟨w4.heap.size,0,none⟩) 0 0) 0 (λ_=>undef):=.inr ⟨w4.heap.size,0,_,rfl,Nat.le_refl _,FU,Nat.le_refl _,Nat.zero_le _,λi hi=>by omega⟩
 have Oa:Hid (∀j,j<n1*2->(w4.alloc (.cells #[] 30)).cell? ⟨b1,o1+j,none⟩=some (qV X1 j)):=λj hj=>by
  have he:=fV.out.trans Pf;rw[he.cell qjU];exact dR j hj
 have Ye:Hid (1<=n1/\1<=n2):=⟨by omega,by omega⟩;have mf:=Lib.hid dO;have qej:=Lib.hid qjV;clear dR dO qjU qjV
 go_wp2_with (at_builtin;refine qoO _ rfl (.tmp 40) (.tmp 41) _ rfl w4.heap.size 30 i0 _ 2 32 Tryz.underlying23 hi hz0 hz1 hz2 rfl (by omega) (.slice (some ⟨w4.heap.size,0,none⟩) 0 0) 0 (λ_=>undef) rfl hOz b1 o1 n1 c1 (qV X1) rfl Oa.out (λj _=>ql4 X1 j) Ye.out.1 ?s1 ?s2 ?s3 ?_)
 case s1=>have:=xw.out;unfold maxLen;omega
 case s2=>have:=xw.out;omega
 case s3=>simp
 intro g1 uj w5 pz kN qjO qB8;have qaK:Ext w4 w5:=((Ext.refl w4).alloc _).grown kN (λk hk=>by simp[Value.ownBlock]at hk;omega)
 have mI:w4.heap.size<=g1:=by
  rcases qjO with h|h
  ·simp[Value.ownBlock]at h;omega
  ·(try simp at h);omega
 have qfG:Hid (∀j,j<n2*2->w5.cell? ⟨b2,o2+j,none⟩=some (qV X2 j)):=λj hj=>by
  have he:=fV.out.trans qaK;rw[he.cell qej.out];exact mf.out j hj
 have HO5:=Lib.hid pz;have XI:=Lib.hid qaK;have xm:=Lib.hid mI;clear pz kN qjO qaK hOz Pf FU Oa mI
 go_wp2_with (at_builtin;refine qoO _ rfl (.tmp 42) (.tmp 43) _ rfl w4.heap.size 30 i0 _ 2 32 Tryz.underlying23 hi hz0 hz1 hz2 rfl (by omega) (.slice (some ⟨g1,0,none⟩) n1 uj) n1 (app (λ_=>undef) 0 (qV X1)) rfl HO5.out b2 o2 n2 c2 (qV X2) rfl qfG.out (λj _=>ql4 X2 j) Ye.out.2 ?s1 ?s2 ?s3 ?_)
 case s1=>have:=xw.out;have:=xy.out;unfold maxLen;omega
 case s2=>have:=xw.out;have:=xy.out;omega
 case s3=>exact XI.out.size
 intro g2 cap2 w6 jP dU qtQ Ew;have qiL:Ext w4 w6:=XI.out.grown dU (λk hk=>by have:=xm.out;simp[Value.ownBlock]at hk;omega)
 have jV:Hid (g2<w6.heap.size/\n1+n2<=cap2/\cap2<=maxLen/\∀j,j<(n1+n2)*2->w6.cell? ⟨g2,j,none⟩=some (qV (XX n1 X1 X2) j)):=by
  rcases jP with⟨h,_⟩|⟨g,cap,F,hv,hb,bI,BU,hmx,hF⟩
  ·cases h
  ·simp only[Value.slice.injEq,Option.some.injEq,Addr.mk.injEq,and_true,true_and]at hv;obtain⟨rfl,rfl⟩:=hv;refine⟨bI.lt,BU,hmx,λj hj=>?_⟩;rw[bI.cell (i:=j) (by have:=Nat.mul_le_mul_right 2 BU;omega),hF j hj];exact congrArg some (qqX _ j λj _=>by unfold app;rw[if_neg (by omega)];rfl)
 have fw:=Lib.hid (fV.out.trans qiL);clear jP dU qtQ Ew qiL qfG HO5 XI xm mf qej hi hz0 hz1 hz2;go_wp2
 go_loopw [46] (λiv wr=>∃k:Nat,k<=n1+n2/\iv=.int .i64 (k:Int)/\Hid (∀i,i<k->(XX n1 X1 X2 i).n<=3)/\Hid (Ext w6 wr)) (λiv _=>n1+n2-(intOf iv).toNat)
 case atStart=>exact⟨0,Nat.zero_le _,rfl,λi hi=>absurd hi (Nat.not_lt_zero _),Ext.refl _⟩
 case round=>
  obtain⟨k,hk,rfl,HK,gD⟩:=hrel
  by_cases hlt:k<n1+n2
  ·have Er:(k:Int)<(n1:Int)+(n2:Int):=by omega
   have hkJ:(k:Int)<((n1+n2:Nat):Int):=by omega
   have x0:wr.cell? ⟨g2,k*2,none⟩=some (.bool (XX n1 X1 X2 k).b):=by rw[gD.out.cell jV.out.1,jV.out.2.2.2 _ (by omega),ql2]
   have x1:wr.cell? ⟨g2,k*2+1,none⟩=some (.slice (XX n1 X1 X2 k).a (XX n1 X1 X2 k).n (XX n1 X1 X2 k).p):=by rw[gD.out.cell jV.out.1,jV.out.2.2.2 _ (by omega),ql3]
   have zU:g2<wr.heap.size:=Nat.lt_of_lt_of_le jV.out.1 gD.out.size;have aU:Hid (Ext w6 (wr.alloc (.cells #[.bool (XX n1 X1 X2 k).b,.slice (XX n1 X1 X2 k).a (XX n1 X1 X2 k).n (XX n1 X1 X2 k).p] 30))):=gD.out.alloc _;have HEF:Hid (Ext w (wr.alloc (.cells #[.bool (XX n1 X1 X2 k).b,.slice (XX n1 X1 X2 k).a (XX n1 X1 X2 k).n (XX n1 X1 X2 k).p] 30))):=fw.out.trans aU.out;obtain⟨xk,hxk⟩:∃xk,XX n1 X1 X2 k=xk:=⟨_,rfl⟩
   have tY:Hid (xk.n<=3->∀i,i<k+1->(XX n1 X1 X2 i).n<=3):=λh i hi=>by
    by_cases e:i=k
    ·rw[e,hxk];exact h
    ·exact HK.out i (by omega)
   rw[hxk]at x0 x1 aU HEF;clear hxk gD HK
   by_cases h3:xk.n<=3
   ·have h3i:¬(3:Int)<(xk.n:Int):=by omega
    have kV:=Lib.hid (tY.out h3);clear h3 tY;go_wp2
    go_roundw
    case rel=>exact⟨k+1,by omega,by go_num,kV,aU⟩
    case measure=>simp[intOf];omega
   ·have h3i:(3:Int)<(xk.n:Int):=by omega
    clear h3 tY;go_wp2;go_ret;exact⟨rfl,HEF.out⟩
  ·obtain rfl:k=n1+n2:=by omega
   have xC:Hid ((∀i,i<n1->(X1 i).n<=3)/\∀i,i<n2->(X2 i).n<=3):=⟨λi hi=>by
    have:=HK.out i (by omega);unfold XX at this;rw[if_pos hi]at this
    exact this,λi hi=>by
    have:=HK.out (n1+i) (by omega);unfold XX at this;rw[if_neg (by omega),Nat.add_sub_cancel_left]at this
    exact this⟩
   have Fb:=Lib.hid (fw.out.trans gD.out);clear HK gD jV fw;obtain⟨f,huf,hdf,rfl⟩:=Dx.out xC.out.1;obtain⟨g,hug,sM,rfl⟩:=yS.out xC.out.2
   obtain⟨D,uw,jk⟩:∃D:Nat,L=(D:Int)+1/\D+1<=4:=by
    have:=NJ.out;exact⟨(L-1).toNat,by omega,by omega⟩
   have BJ:1<=D+1:=by omega
   have hJL:L=((D+1:Nat):Int):=by omega
   obtain⟨m,hm⟩:∃m,tz f n1=m+1:=⟨tz f n1-1,by omega⟩;obtain⟨n,hn⟩:∃n,tz g n2=n+1:=⟨tz g n2-1,by omega⟩
   have yh:m<=6:=by have:=jr f n1;have:=xw.out;omega
   have Md:n<=6:=by have:=jr g n2;have:=xy.out;omega
   have HUF:=Lib.hid huf;have HUG:=Lib.hid hug
   have CF:Hid (∀(W:World)(a:Option Addr)(n c:Nat)(X:Nat->IE)(z:Nat->Int),bg M0 W a n c X z->Calls Tryz.prog 11 #[.slice a n c,.int .i64 L] W (KP M0 W 4 (aP (D+1) n z) 0)):=λW a n c X z h=>by
    rw[uw];exact(qs0 M0 a n c X z D W (yt _) h jk).mono λe w' h=>h.low jk
   have R4:Gn (D+1) m n 6 (aP (D+1) n1 f) (aP (D+1) n2 g):=⟨BJ,jk,(qoF BJ jk xw.out hdf).mono (Nat.le_refl _) (by decide),(qoF BJ jk xy.out sM).mono (Nat.le_refl _) (by decide),CX BJ jk (Ay hm).1,CX BJ jk (Ay hn).1,BH BJ jk hm,BH BJ jk hn,yh,Md,λh=>gJ _ _ h yh,λh=>gJ _ _ h Md⟩
   have CG:Hid (∀W(x y:PE),aI M0 W 4 x (aP (D+1) n1 f)->aI M0 W 4 y (aP (D+1) n2 g)->Calls Tryz.prog 32 #[.agg (ah x),.agg (ah y),.int .i64 L] W λe w'=>∃k:Nat,e=.returned (.tuple #[.int .i64 (k:Int),.int .i64 0])/\GK (D+1) (aP (D+1) n1 f) (aP (D+1) n2 g) k/\Ext W w'):=λW x y hx hy=>by
    rw[hJL];refine(R4.gcd M0 x y W (yt _) hx hy).mono ?_;rintro e w' ⟨k,z,rfl,hz,dz,_,_,he⟩;exact⟨k,rfl,⟨z,hz,dz⟩,he⟩
   have CU:Hid (∀W,Ext w W->Calls Tryz.prog 33 #[.slice (some ⟨b1,o1,none⟩) n1 c1,.slice (some ⟨b2,o2,none⟩) n2 c2] W (qgD (D+1) M0 W (aP (D+1) n1 f) (aP (D+1) n2 g))):=λW he=>
    qzL (D+1) BJ jk M0 ⟨_,n1,c1,X1,f⟩ ⟨_,n2,c2,X2,g⟩ m n 3 W (yt _) (bg.ext HUF.out he) (bg.ext HUG.out he) hm hn yh Md (Nat.le_trans xw.out (by decide)) (Nat.le_trans xy.out (by decide)) (by decide) (by decide) hdf sM
   have Dy:Hid (∀a b,GK (D+1) (aP (D+1) n1 f) (aP (D+1) n2 g) a->GK (D+1) (aP (D+1) n1 f) (aP (D+1) n2 g) b->a=b):=λa b⟨z,hz,dz⟩⟨z',Ms,dz'⟩=>hz.uniq BJ jk (pM _ _ _) (pM _ _ _) Ms dz dz';clear hdf sM huf hug hm hn yh Md R4 uw hJL jk BJ Dx yS xC h0 h02 iq kz hlt hk Ye tZ rz;go_wp2_with (fail);refine(CF.out _ _ _ _ _ _ (bg.ext HUF.out Fb.out)).mono ?_;rintro e w7 ⟨x,rfl,hx,fE⟩;have jW:Hid (BX _ w7.heap.size x _):=qgY hx;have iB:=Lib.hid ((Fb.out.trans fE).alloc (.cells (ah x) 33));clear hx fE Fb
   go_upto_region 12 with(fail)
   generalize w7.heap.size=ba at*;generalize w7.alloc (.cells (ah x) 33)=W7 at*;go_wp2_with (fail);refine(CF.out _ _ _ _ _ _ (bg.ext HUG.out iB.out)).mono ?_;rintro e w8 ⟨y,rfl,hy,lN⟩;have aN:=lN.alloc (.cells (ah y) 33);have qo9:=Lib.hid (jW.out.ext aN);have RD:Hid (BX _ w8.heap.size y _):=qgY hy;have AU:=Lib.hid (iB.out.trans aN);clear hy lN iB jW aN
   go_upto_region 13 with(fail)
   generalize w8.heap.size=bb at*;generalize w8.alloc (.cells (ah y) 33)=W8 at*;obtain⟨⟨x0,x1,x2,x3⟩,cx⟩:=qo9.out;obtain⟨⟨y0,y1,y2,y3⟩,cy⟩:=RD.out;have CC:=Lib.hid (CG.out W8 x y cx cy);clear cx cy CG CF;go_wp2_with (fail);refine CC.out.mono ?_;rintro e w9 ⟨kk,rfl,hgk,pF⟩;have RY:=Lib.hid hgk;have tT:=Lib.hid (AU.out.trans pF);have CUU:=Lib.hid (CU.out w9 tT.out);clear hgk pF CC AU CU x0 x1 x2 x3 y0 y1 y2 y3;go_wp2_with (fail);refine CUU.out.mono ?_;rintro e fU ⟨gg,k',rfl,PR,htz,qkq,Ca⟩;obtain rfl:=Dy.out _ _ RY.out qkq;have CD:=Lib.hid (Na M0 gg.a gg.n gg.p gg.X gg.z fU PR);have HTZ:=Lib.hid htz;have su:=Lib.hid (tT.out.trans Ca);clear PR htz qkq Ca CUU tT;go_wp2_with (fail);refine CD.out.mono ?_;rintro e vO ⟨rfl,qkb⟩;have qpp:=Lib.hid (su.out.trans qkb);rw[HTZ.out]
   have hkk:((kk:Int)==((kk+1:Nat):Int)-1)=true:=by rw[beq_iff_eq];omega
   clear qkb su CD;go_wp2;go_ret;exact⟨by simp,qpp.out⟩
end Go.Proofs.YtmcfpnmoklnhoaaGreat
namespace Go.Proofs.YtmcfpnmoklnhoaaGreat
open Go.ChangeShapes Go.WideShapes Go.ChangeAt Go.RowKit Go.Deep
theorem qxn:∀m n:Nat,n<=m->m<=6->yw m n 6=true:=λm n h1 h2=>(show∀m,m<=6->∀n,n<=m->yw m n 6=true by decide+kernel) m h2 n h1
namespace subresultantUni
theorem own:ownKnob Tryz.prog.godebug=none:=by kernel_rfl
theorem contract(H:Type)(enc:TypeId × Value->H)(W:World)(base:Nat)(args:Array Value)(ds gs:List (DataW H))(before:List MemPlace)
 (hval:∀(j:Nat) t v,Tryz.f5.params[j]?=some t->args[j]?=some v->Value.okWide Tryz.prog W .any base t v)
 (hW:DataW.Whole enc Tryz.prog Tryz.f5.params.toList Rows.subresultantUniSpec.vars false W args.toList ds gs before):
 Calls Tryz.prog 5 args W λe W'=>∃v,e=.returned v/\Rows.subresultantUniSpec.post enc Tryz.prog Tryz.f5 false true false false W args v W':=by
 have hW':=hW;obtain⟨p,q,hA0,hV,rfl,dI,hnd⟩:=hW;have hA:DataW.TrodAll enc Tryz.prog W 0 (λ_=>true) true Tryz.f5.params.toList args.toList ds p:=hA0;rw[Tryz.params5]at hA hval;obtain⟨v0,vs0,d0,ds0,p0,q0,hargs,rfl,rfl,h0,r0⟩:=trodAll_cons hA;obtain⟨v1,vs1,d1,ds1,p1,q1,rfl,rfl,rfl,h1,r1⟩:=trodAll_cons r0;obtain⟨v2,vs2,d2,ds2,p2,q2,rfl,rfl,rfl,h2,r2⟩:=trodAll_cons r1;obtain⟨rfl,rfl,rfl⟩:=trodAll_nil r2
 obtain rfl:args= #[v0,v1,v2]:=by cases args;simp_all
 obtain⟨rfl,rfl⟩:=trodVars_none hV;obtain⟨a0,n0,c0,X0,rfl,g0⟩:=qm7 (hval 0 23 v0 rfl rfl) h0;obtain⟨a1,n1,c1,X1,rfl,g1⟩:=qm7 (hval 1 23 v1 rfl rfl) h1;obtain⟨z2,rfl,g2⟩:=qxr (hval 2 3 v2 rfl rfl) h2;refine(qwj qxn a0 n0 c0 X0 a1 n1 c1 X1 z2 W g0 g1 g2).mono λe W'⟨he,hg⟩=>?_;subst he;refine⟨_,rfl,qxP (tb:=4) (by kernel_rfl) ?_ rfl rfl (by kernel_rfl) Tryz.underlying4 hW' hg⟩;rw[Tryz.params5];intro t ht;simp only[List.mem_cons,List.not_mem_nil,or_false,or_self,or_self_left]at ht;rcases ht with rfl|rfl
 ·exact⟨by kernel_rfl,of_decide_eq_true (by kernel_rfl)⟩
 ·exact⟨by kernel_rfl,of_decide_eq_true (by kernel_rfl)⟩
theorem lifted(os:Os)(started:os.Started)(H:Type)(enc:TypeId × Value->H):
 ReturnsInHanded {} Tryz.checked os 5 .any (Rows.subresultantUniSpec.pre6 enc Tryz.prog Tryz.f5 Rows.subresultantUniRow.domain false) (Rows.subresultantUniSpec.post enc Tryz.prog Tryz.f5 false true false false):=by
 refine returnsInHanded_of_change (C:=Tryz.checked) own started (by kernel_rfl) Tryz.func5
  (ChangeSpec.witness6 (enc:=enc) (C:=Tryz.checked) false ⟨#[],#[.slice none 0 0,.slice none 0 0,.int .i64 0],[]⟩ 8 (by kernel_rfl) (by kernel_rfl) (by kernel_rfl) (by kernel_rfl)) ?_
 intro W base args ds gs before hval hW _ _;exact contract H enc W base args ds gs before hval hW
theorem kInp:(Rows.subresultantUniRow.inPlace==Tryz.pinned.checked.prog.inPlace 5)=true:=by kernel_rfl
theorem kUnf:(Rows.subresultantUniRow.unfollowed==Tryz.pinned.checked.prog.unfollowed 5)=true:=by kernel_rfl
theorem kRec:(Rows.subresultantUniRow.recurses==Tryz.pinned.checked.prog.recurses 5)=true:=by kernel_rfl
theorem kNam:(Rows.subresultantUniRow.named==Tryz.pinned.checked.prog.varsNamed 5)=true:=by kernel_rfl
theorem kLaid:laidOutB Tryz.pinned.checked.prog=true:=by kernel_rfl
theorem closed:joinedFacts Tryz.pinned.checked.prog 5 Tryz.f5 Rows.subresultantUniSpec Rows.subresultantUniRow=true:=by
 unfold joinedFacts;rw[kInp,kUnf,kRec,kNam,kLaid]
 kernel_rfl
theorem proved:Rows.SubresultantUniSaid:=
 OpenClaim.holds_of_wide (p:=Tryz.pinned) (s:=Rows.subresultantUniSpec) (c:=Rows.subresultantUniRow) 5 Tryz.f5 rfl rfl rfl rfl rfl rfl rfl ⟨rfl,rfl,rfl,rfl,rfl⟩ rfl rfl rfl rfl rfl (by kernel_rfl) Tryz.func5 closed
  (of_decide_eq_true (by kernel_rfl)) (by unfold Func.isWrapper;first|(rw[if_pos (by decide+kernel)];kernel_rfl)|(rw[if_neg (by decide+kernel)];exact⟨rfl,rfl⟩))
  (λos started H enc _=>lifted os started H enc)
end subresultantUni
end Go.Proofs.YtmcfpnmoklnhoaaGreat
