/- Yc -/
import Derived.Test.YtmcfpnmoklnhoaaGreatYb
import Derived.Test.YtmcfpnmoklnhoaaGreatNr
import Derived.Test.YtmcfpnmoklnhoaaGreatYa
import Derived.Test.YtmcfpnmoklnhoaaGreatXb
set_option linter.unusedVariables false
set_option maxRecDepth 100000
set_option maxHeartbeats 400000000
set_option linter.unusedSimpArgs false
namespace Go.Proofs.YtmcfpnmoklnhoaaGreat
open Go.RowKit
structure gD where
 a:Option Addr
 n:Nat
 p:Nat
 X:Nat->IE
 z:Nat->Int
def gD.ok(M:Nat->Prop)(W:World)(x:gD):Prop:=bC M W x.a x.n x.p x.X x.z
def XL(X:Nat->Prop)(l:Nat)(b:Nat):Prop:=X b\/b=l
def RZ(x:gD):Prop:=tz x.z x.n=1
abbrev Same(B:Nat)(W W':World):Prop:=Below B W W'
def qaW(X:Nat->Prop)(n:Nat)(P:Program)(g:Nat)(lb:Array Value)(Lv S Sp:gD->Prop)(w:World):Prop:=
 ∀(l:Nat)(J Jx:List gD->World->Prop)(W:World),Below w.heap.size w W->Mb X W->w.heap.size<=l->l<W.heap.size->(∀s A B,J s A->Same W.heap.size A B->J s B)->(∀s A B,Jx s A->Same W.heap.size A B->Jx s B)->
  (∀pre x W1,J pre W1->W.heap.size<=W1.heap.size->x.ok (XL X l) W1->Lv x->YieldAt Fence.wide (n-1) P l #[.slice x.a x.n x.p] W1 λe W'=>(e=.returned (.bool true)/\¬RZ x/\J (pre++[x]) W'/\Kp (XL X l) W1 W')\/(e=.returned (.bool false)/\RZ x/\Jx (pre++[x]) W'/\Kp (XL X l) W1 W'))->
  J [] W->CallsIn Fence.wide n P g (#[.func (.yield l) #[] #[]]++lb) W λe W'=>(∃v,e=.returned v)/\∃pre x,x.ok (XL X l) W'/\Lv x/\((S x/\J (pre++[x]) W')\/(Sp x/\Jx (pre++[x]) W'))
def qtc(X:Nat->Prop)(I:List gD->World->Prop)(id:Nat)(pre:List gD)(x:gD)(W:World):Exit->Act->World->Prop
 | .normal,_,W'=>¬RZ x/\Kp X W W'/\I (pre++[x]) W'
 | .exit k,_,W'=>k=id/\RZ x/\Kp X W W'/\I (pre++[x]) W'
 |_,_,_=>False
theorem I8{B l:Nat}{W:World}(o:Obj)(h:B<=l):Same B W (W.putObj l o):=⟨rfl,rfl,rfl,by simp[World.putObj],λb hb=>World.putObj_heap_other (by omega)⟩
theorem Tt{X:Nat->Prop}{l:Nat}{W:World}(o:Obj):Kp (XL X l) W (W.putObj l o):=⟨by simp[World.putObj],λb _ hb=>World.putObj_heap_other λe=>hb (.inr e)⟩
section
variable{n:Nat}{P:Program}
theorem qCH{g:Operand}{ps:Array Tmp}{assign body:Code}{Q:Exit->Act->World->Prop}{a:Act}{w w0:World}
 (h1:1<=n) {gf:Nat} {lb:Array Value} (hg:a.eval g=.func (.func gf) #[] lb) (eg:∀args w,(callFunc gf args).run P w=.ok (.enter gf args) w)
 {X:Nat->Prop} {Lv S Sp:gD->Prop} (qxT:qaW (λb=>X b\/b=w.heap.size) (n-1) P gf lb Lv S Sp w0) (ll:Below w0.heap.size w0 w) (Od:ps.size=1) (hX:∀b,X b->b<w.heap.size)
 (I:List gD->World->Prop) (hI:∀s A B,I s A->Same w.heap.size A B->I s B) (id:Nat) (a₁:gD->Act)
 (hassign:∀(l:Nat)(x:gD)(W:World)(K:Act->World->Prop),K (a₁ x) W->
  assign.wpIn (Fence.wide.inRound l) (n-1-1) P (Exit.then K (λ_ _ _=>False)) {tmps:=(ps.zip #[Value.slice x.a x.n x.p]).foldl (λt(p,v)=>t.setIfInBounds p v) a.tmps,defers:=[]} W)
 (hbody:∀(l:Nat)(pre:List gD)(x:gD)(W:World),I pre W->w.heap.size<=W.heap.size->x.ok (XL (λb=>X b\/b=w.heap.size) l) W->Lv x->body.wpIn (Fence.wide.inRound l) (n-1-1) P (qtc X I id pre x W) (a₁ x) W)
 (h0:I [] w)
 (hdone:∀(pre:List gD)(x:gD)(W:World),w.heap.size<=W.heap.size->S x->Lv x->x.ok (λb=>X b\/b=w.heap.size) W->I (pre++[x]) W->W.heap[w.heap.size]?=some (.deferred (some []))->Q .normal {a with defers:={target:=.collected w.heap.size,args:= #[]}::a.defers} W)
 (hstop:∀(pre:List gD)(x:gD)(W:World),w.heap.size<=W.heap.size->Sp x->Lv x->x.ok (λb=>X b\/b=w.heap.size) W->I (pre++[x]) W->W.heap[w.heap.size]?=some (.deferred (some []))->(Code.exit id).wpIn Fence.wide n P Q {a with defers:={target:=.collected w.heap.size,args:= #[]}::a.defers} W):
 (Code.rangeFunc g ps assign body).wpIn Fence.wide n P Q a w:=by
 refine wpIn_rangeFunc λfn Rl=>?_
 let R:LoopState->Option Code->Loop:=λst pe=>{state:=st,pending:=pe,fn,tmps:=a.tmps,params:=ps,assign,body,defers:=w.heap.size}
 let W1:=(w.alloc (.deferred (some []))).alloc (.loop (R .ready none))
 have eU:W1.heap.size=w.heap.size+2:=by show((w.alloc _).alloc _).heap.size=_;simp
 have hL:xC w.heap.size (R .ready none) W1:=by
  have h2:=World.alloc_heap_new (w.alloc (.deferred (some []))) (.loop (R .ready none));rw[World.size_alloc]at h2;exact⟨h2,(Below.heap_alloc _ _ _ (by simp)).trans (World.alloc_heap_new w _)⟩
 have hS1:Same w.heap.size w W1:=((Below.refl _ w).alloc (aI _) _).alloc (by simp) _;have qn6:∀{r:Loop}{A B:World},xC w.heap.size r A->Same W1.heap.size A B->xC w.heap.size r B:=λh k=>⟨(k.block _ (by omega)).trans h.1,(k.block _ (by omega)).trans h.2⟩;have qn5:∀{s:List gD}{A B:World},I s A->Same W1.heap.size A B->I s B:=λh k=>hI _ _ _ h (k.mono (by omega))
 have qyH:∀{r:Loop}{A B:World},xC w.heap.size r A->Kp X A B->xC w.heap.size r B:=λh k=>by
  have:=h.lt;exact⟨(k.2 _ (by omega) λhx=>by have:=hX _ hx;omega).trans h.1,(k.2 _ (by omega) λhx=>by have:=hX _ hx;omega).trans h.2⟩
 rw[Fence.wide_round];refine⟨w.heap.size+1,_,W1,{target:=.fn (.func gf) lb,args:= #[.func (.yield (w.heap.size+1)) #[] #[]]},W1,gf,#[.func (.yield (w.heap.size+1)) #[] #[]]++lb,W1,run_enterLoop_outer _ _ _ _ _,?_,?_,?_,λ_=>h1,?_⟩
 ·simp only[resolve,hg];simp[go_sem]
 ·intro f' hf';trivial
 ·simp[invoke,go_sem,eg]
 refine(qxT (w.heap.size+1) (λpre W=>I pre W/\xC w.heap.size (R .ready none) W) (λpre W=>I pre W/\xC w.heap.size (R .done (some (.exit id))) W) W1 (ll.trans ((((Below.refl _ w).alloc (aI _) _).alloc (by simp) _).mono ll.size)) (λb hb=>hb.elim (λh=>by have:=hX b h;omega) λh=>by omega) (aR ll.size (by omega)) (by omega)
  (λs A B hs k=>⟨qn5 hs.1 k,qn6 hs.2 k⟩) (λs A B hs k=>⟨qn5 hs.1 k,qn6 hs.2 k⟩) ?_ ⟨hI _ _ _ h0 hS1,hL⟩).mono ?_
 ·rintro pre x W ⟨hi,hl⟩ hsz fZ iJ;refine⟨fn,_,assign,body,run_yield (args:= #[.slice x.a x.n x.p]) hl.1 (by show(1:Nat)=ps.size;omega),roundIn_of_wpIn Rl (hassign _ x W _ ⟨_,run_beginRound hl.1 rfl,?_⟩)⟩;have hlB:=hl.put (R .busy none);refine wpIn_mono (hbody _ pre x _ (hI _ _ _ hi (I8 _ (by omega))) (aR (Nat.le_of_lt (Nat.lt_of_succ_lt hl.lt)) (I8 (B:=0) _ (bK _)).size) (bC.kp fZ (Tt _)) iJ) ?_;intro e a3 W3 hp
  have fin:∀(jump:Option Code),Kp X (W.putObj (w.heap.size+1) (.loop (R .busy none))) W3->I (pre++[x]) W3->
   (Instr.endRound (w.heap.size+1) jump).run P W3=.ok (.bool jump.isNone) (W3.putObj (w.heap.size+1) (.loop (R (if jump.isNone then .ready else .done) jump)))/\
   (I (pre++[x]) (W3.putObj (w.heap.size+1) (.loop (R (if jump.isNone then .ready else .done) jump)))/\xC w.heap.size (R (if jump.isNone then .ready else .done) jump) (W3.putObj (w.heap.size+1) (.loop (R (if jump.isNone then .ready else .done) jump))))/\
   Kp (XL (λb=>X b\/b=w.heap.size) (w.heap.size+1)) W (W3.putObj (w.heap.size+1) (.loop (R (if jump.isNone then .ready else .done) jump))):=λjump tN Ru=>by
   have WT:=qyH hlB tN;exact⟨run_endRound jump WT.1,⟨hI _ _ _ Ru (I8 _ (by omega)),WT.put _⟩,(Tt _).trans (Kp.trans ⟨tN.1,λb hb hn=>tN.2 b hb λh=>hn (.inl (.inl h))⟩ (Tt _))⟩
  cases e with
  |normal=>
   obtain⟨hr,hj,hk⟩:=fin none hp.2.1 hp.2.2;exact⟨_,_,hr,.inl ⟨rfl,hp.1,hj,hk⟩⟩
  |ret=>exact hp.elim
  |exit k=>
   obtain⟨rfl,hz,hp1,hp2⟩:=hp;obtain⟨hr,hj,hk⟩:=fin (some (.exit k)) hp1 hp2;exact⟨_,_,hr,.inr ⟨rfl,hz,hj,hk⟩⟩
  |goto t=>exact hp.elim
  |panic ch=>exact hp.elim
  |outgrown=>exact hp.elim
 ·rintro e W2 ⟨⟨v,rfl⟩,pre,x,fZ,iJ,(⟨hS,hi,hl⟩|⟨hSp,hi,hl⟩)⟩
  ·have DV:=hl.lt;exact⟨none,_,run_endLoop hl.1 (by intro h;cases h),hdone pre x _ (aR (Nat.le_of_lt (Nat.lt_of_succ_lt hl.lt)) (I8 (B:=0) _ (bK _)).size) hS iJ (bC.more ((bC.kp fZ (Tt _))) (λg hg=>.inl (.inl hg))) (hI _ _ _ hi (I8 _ (by omega))) ((World.putObj_heap_other (by omega)).trans hl.2)⟩
  ·have DV:=hl.lt;exact⟨some _,_,run_endLoop hl.1 (by intro h;cases h),hstop pre x _ (aR (Nat.le_of_lt (Nat.lt_of_succ_lt hl.lt)) (I8 (B:=0) _ (bK _)).size) hSp iJ (bC.more ((bC.kp fZ (Tt _))) (λg hg=>.inl (.inl hg))) (hI _ _ _ hi (I8 _ (by omega))) ((World.putObj_heap_other (by omega)).trans hl.2)⟩
end
def GH(ca cb:Nat)(x y:gD)(w:World):Prop:=w.cell? ⟨ca,0,none⟩=some (.slice x.a x.n x.p)/\w.cell? ⟨cb,0,none⟩=some (.slice y.a y.n y.p)
theorem GH.ext{ca cb:Nat}{x y:gD}{w w':World}(h:GH ca cb x y w)(he:Ext w w'):GH ca cb x y w':=by
 have h1:=oF _ _ h.1;have h2:=oF _ _ h.2;unfold GH;rw[he.cell h1,he.cell h2];exact h
theorem Same.kV{B:Nat}{W W':World}(h:Ext W W')(hB:B<=W.heap.size):Same B W W':=Below.mono h hB
theorem Same.bW{B:Nat}{a w:World}(h:Same B a w){g:Nat}(hg:B<=g)(o:Nat)(e0 e1:Value):Same B a (Go.Proofs.YtmcfpnmoklnhoaaGreat.bW w g o e0 e1):=⟨h.os,h.tape,h.output,by rw[BU];exact h.size,λk hk=>(xU w g o e0 e1 k (by omega)).trans (h.block k hk)⟩
def Db(x:gD):Prop:=x.n<=7/\tz x.z x.n≠0/\∀i,i<x.n->aH (x.z i).natAbs<=1000000000
def JZ(Jd:Nat)(F G:List Tm)(x:gD):Prop:=∃k,tz x.z x.n=k+1/\GK Jd F G k
def MI(Jd:Nat)(F G:List Tm)(x:gD):Prop:=RZ x/\GK Jd F G 0
def ZL(X:Nat->Prop)(l gs gd:Nat)(b:Nat):Prop:=(XL X l b\/b=gs)\/b=gd
def Cb(M:Nat->Prop)(w:World)(g:Nat)(z:Int):Prop:=∃x:IE,aG w g 30 2 (arr #[.bool x.b,.slice x.a x.n x.p])/\IX M w x z
theorem Cb.ext{M:Nat->Prop}{w w':World}{g:Nat}{z:Int}(h:Cb M w g z)(he:Ext w w'):Cb M w' g z:=by
 obtain⟨x,h1,h2⟩:=h;exact⟨x,h1.ext he,h2.ext he⟩
theorem Cb.kp{M M':Nat->Prop}{w w':World}{g:Nat}{z:Int}(h:Cb M w g z)(he:Kp M' w w')(hg:¬M' g)(hm:∀b,M' b->M b):Cb M w' g z:=by
 obtain⟨x,h1,h2⟩:=h;exact⟨x,h1.of_heap (he.2 g h1.lt hg),h2.kp ⟨he.1,λb hb hn=>he.2 b hb λh=>hn (hm b h)⟩⟩
structure ItS(Jd:Nat)(X:Nat->Prop)(F G:List Tm)(m n l gs gd B0:Nat)(e d D:Nat)(p q:gD)(s dv:Int)(w:World):Prop where
 pr:AJ Jd m n F G e d (aP p.n p.z) (aP q.n q.z) s dv
 np:p.n=e+d+1
 nq:q.n=e+1
 okp:p.ok (ZL X l gs gd) w
 okq:q.ok (ZL X l gs gd) w
 js:Cb (ZL X l gs gd) w gs s
 jd:Cb (ZL X l gs gd) w gd dv
 ed:e+d<=6
 D1:1<=D
 hD:D*15^e<=1000000000
 dp:∀i,i<p.n->aH (p.z i).natAbs<=D
 dq:∀i,i<q.n->aH (q.z i).natAbs<=D
 ds:aH s.natAbs<=D
 mb:Mb (ZL X l gs gd) w
 nw:l<B0/\B0<=gs/\gs<gd/\(∀b,X b->b<B0)/\B0<=w.heap.size
theorem qyC{e d nv:Nat}{A B zv:Nat->Int}{dv:Int}(h1:nv=tz zv nv)(h2:∀i,aP nv zv i=aP e (zR e (d+1) B A (d+1)) i):
 (nv=0->∀i,i<e->zR e (d+1) B A (d+1) i=0)/\∀c,nv=c+1->c<e/\zR e (d+1) B A (d+1) c≠0/\(∀i,c<i->i<e->zR e (d+1) B A (d+1) i=0)/\aP (c+1) (λi=>(zv i).tdiv dv)=oz e d A B dv/\∀i,i<nv->zv i=zR e (d+1) B A (d+1) i:=by
 have k:∀i,i<e->zR e (d+1) B A (d+1) i=aP nv zv i:=λi hi=>by
  rw[h2 i];unfold aP;rw[ai hi]
 have k':∀i,e<=i->aP nv zv i=0:=λi hi=>by
  rw[h2 i];unfold aP;exact ah (by omega)
 refine⟨λh0 i hi=>?_,?_⟩
 ·rw[k i hi];unfold aP;exact ah (by omega)
 ·rintro c rfl
  have ht:zv c≠0:=by
   have:=(Jl zv (c+1)).resolve_left (by omega);rw[<-h1]at this;exact this
  have hce:c<e:=eF λhc=>ht (by
   have:=k' c (by omega);unfold aP at this;rw[ai (by omega)]at this
   exact this)
  have hv:∀i,i<c+1->zv i=zR e (d+1) B A (d+1) i:=λi hi=>by
   rw[k i (by omega)];unfold aP;rw[ai hi]
  have hz:∀i,c<i->i<e->zR e (d+1) B A (d+1) i=0:=λi h3 h4=>by
   rw[k i h4];unfold aP;exact ah (by omega)
  refine⟨hce,by rw[<-hv c (by omega)];exact ht,hz,funext λi=>?_,hv⟩;show(if i<c+1 then(zv i).tdiv dv else 0)=oz e d A B dv i;unfold oz
  by_cases hi:i<c+1
  ·rw[ai hi,ai (by omega),hv i hi]
  ·rw[ah hi]
   split
   ·rename_i h5;rw[hz i (by omega) h5];exact(Int.zero_tdiv _).symm
   ·rfl
def ItR(Jd:Nat)(J:List gD->World->Prop)(X:Nat->Prop)(F G:List Tm)(m n l gs gd B0:Nat)(i4 i5 i6:Value)(wr:World):Prop:=
 ∃e d D p q s dv pre,i4=.slice p.a p.n p.p/\i5=.slice q.a q.n q.p/\i6=.int .i64 ((d:Nat):Int)/\Hid (J (pre++[q]) wr)/\Hid (Db q)/\Hid (ItS Jd X F G m n l gs gd B0 e d D p q s dv wr)
def ItC(Z:Nat->Prop)(W0:World)(gs:Nat)(v:Int)(wx:World):Prop:=Cb Z wx gs v/\Kp (λb=>b=gs) W0 wx/\Same gs W0 wx
theorem quw{d D:Nat}{l s:Int}(hl:aH l.natAbs<=D)(hs:aH s.natAbs<=D)(hd:d<=6)(hD:1<=D):aH (tV d l s).natAbs<=D*15:=by
 unfold tV
 split
 ·rw[Int.natAbs_tdiv];refine aR (jB (Nat.div_le_self _ _)) ?_;have h1:=Nn (c:= -l) (D:=D) (by rw[Int.natAbs_neg];exact hl) d;have h2:=eB D hd;omega
 ·omega
def lenOf:Value->Nat
 | .slice _ n _=>n
 |_=>0
theorem qAP(Jd:Nat)(j1:1<=Jd)(j4:Jd<=4)(X:Nat->Prop)(w:World)(ca cb:Nat)(x y:gD)(m n D:Nat)(hc:GH ca cb x y w)(hX:¬X ca/\¬X cb)(hx:x.ok X w)(hy:y.ok X w)(tx:tz x.z x.n=m+1)(ty:tz y.z y.n=n+1)(iP:n<=m)(Oa:m<=6)(G8:1<=D)(hD:D*15^7<=1000000000)(dx:∀i,i<x.n->aH (x.z i).natAbs<=D)(dy:∀i,i<y.n->aH (y.z i).natAbs<=D):
 qaW X 2 Tryz.prog 141 #[.pointer (some ⟨ca,0,none⟩),.pointer (some ⟨cb,0,none⟩)] Db (JZ Jd (aU Jd x.n x.z) (aU Jd y.n y.z)) (MI Jd (aU Jd x.n x.z) (aU Jd y.n y.z)) w:=by
 intro l J Jx W hW Ku hwl hlW hJ hJx hY h0;have H7:Ext w W:=hW;have HY:=ae hY;have HJ:=ae hJ;have HJX:=ae hJx;have HX:=ae hx;have JR:=ae hy;have HM:=ae Ku;have HC:=ae (hc.ext H7);have HE:=ae H7
 have yA:Hid (Mb (XL X l) W):=λb hb=>hb.elim (λh=>Ku b h) λh=>by omega
 have uE:∀g,XL X l g->X g\/w.heap.size<=g:=λg h=>h.imp id λe=>by omega
 have lH:Hid (x.ok (XL X l) W):=(bC.more hx uE).ext H7;have rJ:Hid (y.ok (XL X l) W):=(bC.more hy uE).ext H7;clear hY hJ hJx hx hy Ku hc hW uE;refine callsIn_wide.2 ?_;show Calls Tryz.prog 141 #[.func (.yield l) #[] #[],.pointer (some ⟨ca,0,none⟩),.pointer (some ⟨cb,0,none⟩)] W _
 go_enter Tryz.func141,Tryz.ntmps141
 go_upto_region 0 with(fail)
 have bI:=(aA W).drew;have hS:=HC.out.ext bI;refine TV (GH ca cb x y) 5 (by kernel_rfl) hS (λhHeld=>?_);clear hS;generalize W.drew=wd at*;have C1:=ae (λ(W':World)(he:Ext wd W')=>TK (XL X l) x.a x.n x.p x.X x.z W' (yA.out.ext (bI.trans he)) (lH.out.ext (bI.trans he)));have C3:=ae (λ(W':World)(he:Ext wd W')=>TK (XL X l) y.a y.n y.p y.X y.z W' (yA.out.ext (bI.trans he)) (rJ.out.ext (bI.trans he)));rw[tx]at C1;rw[ty]at C3
 ((refine qR 0 (v:=?_) ?_ ?_;rotate_left 1;(intro wS hSw;obtain⟨S1,S2⟩:=hSw;go_simp;try with_reducible rfl);(try simp only[Act.put,aB,aC,aD]));(refine qR 2 (v:=?_) ?_ ?_;rotate_left 1;(intro wS hSw;obtain⟨S1,S2⟩:=hSw;go_simp;try with_reducible rfl);(try simp only[Act.put,aB,aC,aD])))
 ((refine vX 1 ?_;intro K hK);go_simp;(refine(C1.out _ (aA _)).mono ?_);rintro e_ u1 ⟨a1,X1,rfl,hu1,bM⟩;go_wp2_with (fail);(try clear ag);(have ag:=hHeld.ext bM);(refine hK.out _ _ (λ_ _=>ag) ?_);clear hK K;(try simp only[Act.put,aB,aC,aD]))
 ((refine vX 3 ?_;intro K hK);go_simp;(refine(C3.out _ bM).mono ?_);rintro e_ u2 ⟨a2,X2,rfl,mo,fM⟩;go_wp2_with (fail);(try clear ag);(have ag:=hHeld.ext (bM.trans fM));(refine hK.out _ _ (λ_ _=>ag) ?_);clear hK K;(try simp only[Act.put,aB,aC,aD]))
 ((refine F8 4 (v:=?_) ?_ ?_;rotate_left 1;(intro wS;go_simp;try with_reducible rfl);(try simp only[Act.put,aB,aC,aD])))
 have aZ:=ae (bI.trans (bM.trans fM));have HA:Hid (gD.ok (XL X l) u2 ⟨a1,m+1,m+1,X1,x.z⟩):=hu1.ext fM;have HB:Hid (gD.ok (XL X l) u2 ⟨a2,n+1,n+1,X2,y.z⟩):=mo;have Ey:Hid (J [] u2):=HJ.out _ _ _ h0 (Same.kV aZ.out (aI _));clear hu1 mo bM fM C1 C3 h0 hHeld ag lH rJ bI HC
 ((refine vX 5 ?_;intro K hK);go_simp;(refine hK.out _ _ (λh=>absurd rfl h) ?_);clear hK K;refine TP ?_)
 go_upto_region 1 with(fail)
 have Ap:Hid (tz x.z (m+1)=m+1):=by show _=_;have:=YE x.z x.n;rw[tx]at this;exact this
 have Cz:Hid (tz y.z (n+1)=n+1):=by show _=_;have:=YE y.z y.n;rw[ty]at this;exact this
 have KZ:m+1<=x.n:=tx ▸ iR x.z x.n;have K4:n+1<=y.n:=ty ▸ iR y.z y.n;have AX:D<=1000000000:=aR (Nat.le_mul_of_pos_right D (by decide)) hD;have PK:Hid (Db ⟨a1,m+1,m+1,X1,x.z⟩):=⟨Nat.succ_le_succ Oa,by show tz x.z (m+1)≠0;rw[Ap.out];omega,λi hi=>aR (dx i (dH hi KZ)) AX⟩;have Gm:Hid (Db ⟨a2,n+1,n+1,X2,y.z⟩):=⟨Nat.succ_le_succ (aR iP Oa),by show tz y.z (n+1)≠0;rw[Cz.out];omega,λi hi=>aR (dy i (dH hi K4)) AX⟩;have yx:Hid (n=0->GK Jd (aU Jd x.n x.z) (aU Jd y.n y.z) 0):=λh=>qj6 (by omega) (by omega) (kE _ _ _) (kE _ _ _) iP (zV (by omega) (by omega) (pG tx).1) (zV (by omega) (by omega) (pG ty).1) (yQ (by omega) (by omega) tx) (yQ (by omega) (by omega) ty) (.inl h);have Vb:W.heap.size<=u2.heap.size:=aZ.out.size;obtain⟨fn,tmps,assign,body,jh,qD⟩:=HY.out [] ⟨a1,m+1,m+1,X1,x.z⟩ u2 Ey.out Vb HA.out PK.out;refine(wpIn_wide (n:=2)).1 (wpIn_region_lit ?_)
 gi_wp2_with (fail)
 clear jh;refine qD.mono ?_;rintro e w3 (⟨rfl,vN,Q4,tN⟩|⟨rfl,vN,Q4,tN⟩)
 ·have yo:Hid (gD.ok (XL X l) w3 ⟨a1,m+1,m+1,X1,x.z⟩):=bC.kp HA.out tN;have lT:Hid (gD.ok (XL X l) w3 ⟨a2,n+1,n+1,X2,y.z⟩):=bC.kp HB.out tN;have Ve:W.heap.size<=w3.heap.size:=aR Vb tN.1;have ZI:=ae Q4;clear Q4 vN tN qD Ey Vb HA HB aZ
  gi_wp2_with (fail)
  obtain⟨fn,tmps,assign,body,jh,qD⟩:=HY.out [⟨a1,m+1,m+1,X1,x.z⟩] ⟨a2,n+1,n+1,X2,y.z⟩ w3 ZI.out Ve lT.out Gm.out
  gi_wp2_with (fail)
  clear jh;refine qD.mono ?_;rintro e w4 (⟨rfl,FP,Q5,mI⟩|⟨rfl,FP,Q5,mI⟩)
  ·have Gc:Hid (gD.ok (XL X l) w4 ⟨a1,m+1,m+1,X1,x.z⟩):=bC.kp yo.out mI;have rG:Hid (gD.ok (XL X l) w4 ⟨a2,n+1,n+1,X2,y.z⟩):=bC.kp lT.out mI;have qaE:W.heap.size<=w4.heap.size:=aR Ve mI.1;have JB:Hid (J ([⟨a1,m+1,m+1,X1,x.z⟩]++[⟨a2,n+1,n+1,X2,y.z⟩]) w4):=Q5
   have kT:1<=n:=by
    have h1:¬tz y.z (n+1)=1:=FP;rw[Cz.out]at h1;omega
   clear Q5 FP mI qD ZI Ve yo lT;have wF:Hid (Mb (XL X l) w4):=yA.out.size qaE
   gi_wp2_with (fail)
   go_upto_region 3 with(fail)
   rw[show((m:Int)+1-((n:Int)+1))=((m-n:Nat):Int) by omega];go_wp2_with (fail);refine(ofI (-1) w4 wF.out (by omega)).mono ?_;rintro e w5 ⟨sx,rfl,R4,bn⟩;obtain⟨gs,zn⟩:∃gs,gs=w5.heap.size:=⟨_,rfl⟩;have aT:=(aA w5).alloc (.cells #[.bool sx.b,.slice sx.a sx.n sx.p] 30);have bQ:=aG.bq w5 #[.bool sx.b,.slice sx.a sx.n sx.p] 30 2 rfl;rw[<-zn]at bQ;obtain⟨W6,gV⟩:∃W6,w5.alloc (.cells #[.bool sx.b,.slice sx.a sx.n sx.p] 30)=W6:=⟨_,rfl⟩;rw[gV]at aT bQ;have oZ:=ae gV;have xn:=ae zn
   have qwT:W.heap.size<=gs:=by have:=bn.size;omega
   have NA:=bn.trans aT
   have qdi:∀g,(XL X l g\/g=gs)->XL X l g\/w4.heap.size<=g:=λg h=>h.imp id λe=>by have:=bn.size;omega
   have Eo:Hid (gD.ok (λb=>XL X l b\/b=gs) W6 ⟨a1,m+1,m+1,X1,x.z⟩):=bC.ext (bC.more Gc.out qdi) NA;have oU:Hid (gD.ok (λb=>XL X l b\/b=gs) W6 ⟨a2,n+1,n+1,X2,y.z⟩):=bC.ext (bC.more rG.out qdi) NA;have ZP:Hid (Mb (λb=>XL X l b\/b=gs) W6):=pz (wF.out.ext NA) bQ.lt;have qz:Hid (IX (λb=>XL X l b\/b=gs) W6 sx (-1)):=(R4.more (λg h=>h.imp id λe=>by omega)).ext aT;have Zi:=ae bQ;have Ez:Hid (J ([⟨a1,m+1,m+1,X1,x.z⟩]++[⟨a2,n+1,n+1,X2,y.z⟩]) W6):=HJ.out _ _ _ JB.out (Same.kV NA qaE);have fT:Hid (w4.heap.size<=W6.heap.size):=NA.size;have CP:=ae (YF (λb=>XL X l b\/b=gs) sx (-1) (m-n+1) 1 W6 ZP.out qz.out (by omega) (by decide) (by decide));obtain⟨x0,x1⟩:=lJ bQ;have fA:=bQ.lt;clear aT bQ gV R4 bn NA qdi Gc rG JB wF zn
   go_upto_region 4 with(fail)
   rw[oZ.out, <-xn.out];clear oZ;go_wp2_with (fail);rw[show(((m-n:Nat):Int)+1)=((m-n+1:Nat):Int) by omega];refine CP.out.mono ?_;rintro e w7 ⟨xL,rfl,Fy,gX⟩;obtain⟨gd,jF⟩:∃gd,gd=w7.heap.size:=⟨_,rfl⟩;have aT:=(aA w7).alloc (.cells #[.bool xL.b,.slice xL.a xL.n xL.p] 30);have bQ:=aG.bq w7 #[.bool xL.b,.slice xL.a xL.n xL.p] 30 2 rfl;rw[<-jF]at bQ;obtain⟨W8,Fs⟩:∃W8,w7.alloc (.cells #[.bool xL.b,.slice xL.a xL.n xL.p] 30)=W8:=⟨_,rfl⟩;rw[Fs]at aT bQ;have P9:=ae Fs;have wC:=ae jF;have Ha:=gX.trans aT
   have qwJ:gs<gd:=by have:=Zi.out.lt;have:=gX.size;omega
   have WY:∀g,ZL X l gs gd g->(XL X l g\/g=gs)\/W6.heap.size<=g:=λg h=>h.imp id λe=>by have:=gX.size;omega
   have hm7:∀g,ZL X l gs gd g->(XL X l g\/g=gs)\/w7.heap.size<=g:=λg h=>h.imp id λe=>by omega
   have Uw:Hid (ItS Jd X (aU Jd x.n x.z) (aU Jd y.n y.z) m n l gs gd W.heap.size n (m-n) D ⟨a1,m+1,m+1,X1,x.z⟩ ⟨a2,n+1,n+1,X2,y.z⟩ (-1) ((-1)^(m-n+1)) W8):=by
    have z1:aP (m+1) x.z=aP x.n x.z:=by rw[<-tx];exact funext λi=>El _ _ i
    have z2:aP (n+1) y.z=aP y.n y.z:=by rw[<-ty];exact funext λi=>El _ _ i
    refine⟨?_,by show m+1=n+(m-n)+1;omega,rfl,bC.ext (bC.more Eo.out WY) Ha,bC.ext (bC.more oU.out WY) Ha,⟨sx,Zi.out.ext Ha,(qz.out.more WY).ext Ha⟩,⟨xL,bQ,(Fy.more hm7).ext aT⟩,by omega,G8,aR (Nat.mul_le_mul_left D (Nat.pow_le_pow_right (by decide) (by omega))) hD,λi hi=>dx i (dH hi KZ),λi hi=>dy i (dH hi K4),aR (by decide) G8,pz (ZP.out.ext Ha) bQ.lt,hlW,qwT,qwJ,λb hb=>HM.out b hb,by have:=fT.out;have:=Ha.size;omega⟩;show AJ Jd m n _ _ n (m-n) (aP (m+1) x.z) (aP (n+1) y.z) _ _;rw[z1,z2];exact qAp (by omega) (by omega) tx ty kT iP
   have HJ8:Hid (J ([⟨a1,m+1,m+1,X1,x.z⟩]++[⟨a2,n+1,n+1,X2,y.z⟩]) W8):=HJ.out _ _ _ Ez.out (Same.kV Ha (aR qaE fT.out));clear aT bQ Fs Fy gX Ha WY hm7 jF CP qz Zi Eo oU ZP Ez fT xn fA x0 x1;clear HX JR yA Ap Cz PK yx KZ K4 AX dx dy HM HE;have Us:Hid (NN (aU Jd x.n x.z)/\NN (aU Jd y.n y.z)/\¬af (aU Jd x.n x.z) []/\¬af (aU Jd y.n y.z) []/\bE Jd (aU Jd x.n x.z) m/\bE Jd (aU Jd y.n y.z) n):=⟨kE _ _ _,kE _ _ _,zV (by omega) (by omega) (pG tx).1,zV (by omega) (by omega) (pG ty).1,yQ (by omega) (by omega) tx,yQ (by omega) (by omega) ty⟩;go_wp2_with (fail);rw[P9.out, <-wC.out];clear P9 wC
   go_loopw [4,5,6] (λi4 i5 i6 wr=>ItR Jd J X (aU Jd x.n x.z) (aU Jd y.n y.z) m n l gs gd W.heap.size i4 i5 i6 wr) (λ_ i5 _ _=>lenOf i5)
   case atStart=>exact⟨n,m-n,D,_,⟨a2,n+1,n+1,X2,y.z⟩,_,_,[⟨a1,m+1,m+1,X1,x.z⟩],rfl,rfl,rfl,HJ8,Gm,Uw⟩
   case round=>
    clear HJ8 Gm Uw;obtain⟨e,d,D,p,q,s,dv,pre,rfl,rfl,rfl,JA,HL0,HI⟩:=hrel;have hI:=HI.out;have Xe:=hI.np;have hnq:=hI.nq;have kz:=hI.ed;have hpe:=hI.pr.pe
    have AX:D*15<=1000000000:=by
     have h1:=hI.hD;have h2:15^1<=15^e:=Nat.pow_le_pow_right (by decide) hpe;have h3:=Nat.mul_le_mul_left D h2;omega
    have qky:=hI.D1
    have Mq:Hid (tz q.z q.n=e+1):=by
     have h1:=hI.pr.tB;unfold aP at h1;rw[ai (by omega)]at h1;show _=_;rw[hnq];exact OY h1
    have HTP:Hid (tz p.z p.n=e+d+1):=by
     have h1:=hI.pr.tA;unfold aP at h1;rw[ai (by omega)]at h1;show _=_;rw[Xe];exact OY h1
    have HNV:Hid (PsN p.n D D):=⟨by
     have h1:=eB (D+1) (show p.n<=7 by omega);have h2:=eB D (show p.n<=7 by omega)
     omega⟩
    have CP:=ae (qCk (ZL X l gs gd) p.a p.n p.p p.X p.z q.a q.n q.p q.X q.z D D wr hI.mb hI.okp hI.okq (by omega) (by omega) hI.dp hI.dq HNV.out);have UM:=ae Xe;have Me:=ae hnq;have jO:=ae kz;have Cs:=ae hpe;have wu:=ae AX;have kG:=ae qky;have HWL:=ae hlW;clear hI HNV Xe hnq kz hpe AX qky hD G8 tx ty hX H7 hwl hlW;go_wp2_with (fail);refine CP.out.mono ?_;rintro e_ w9 ⟨au,nu,cu,av,nv,cv,er,rfl,⟨Xu,zu,Xv,zv,hu,hv,Od⟩,qF⟩
    obtain⟨h1,h2⟩:nv=tz zv nv/\∀i,aP nv zv i=aP e (zR e (d+1) (aP q.n q.z) (aP p.n p.z) (d+1)) i:=by
     rcases Od with⟨h0,_⟩|⟨n',V,k1,k2,k3,k4,_,k6⟩
     ·rw[Mq.out]at h0;cases h0
     ·obtain rfl:n'=e:=by rw[Mq.out]at k1;omega
      obtain rfl:V=d+1:=by rw[HTP.out]at k2;omega
      exact⟨k4,k6⟩
    have Cu:=ae (qyC (dv:=dv) h1 h2);have HV9:=ae hv;have Ch:=ae qF;have HTV:=ae h1;clear Od h1 h2 hu hv qF CP;have Oq:∀g,XL X l g->ZL X l gs gd g:=λg h=>.inl (.inl h);have HWR:Hid (W.heap.size<=wr.heap.size):=HI.out.nw.2.2.2.2;have ZJ:Hid (J (pre++[q]) w9):=HJ.out _ _ _ JA.out (Same.kV Ch.out HWR.out)
    by_cases oJ:nv=0
    ·subst oJ;have hz0:(((0:Nat):Int)==0)=true:=rfl
     have HF:Hid ((∃v,Ending.returned (.tuple #[])=.returned v)/\∃pre x',x'.ok (XL X l) w9/\Db x'/\((JZ Jd (aU Jd x.n x.z) (aU Jd y.n y.z) x'/\J (pre++[x']) w9)\/(MI Jd (aU Jd x.n x.z) (aU Jd y.n y.z) x'/\Jx (pre++[x']) w9))):=by
      obtain⟨f1,f2,f3,f4,f5,f6⟩:=Us.out;exact⟨⟨_,rfl⟩,pre,q,bC.ext (bC.more HI.out.okq λg h=>.inl (Oq g h)) Ch.out,HL0.out,.inl ⟨⟨e,Mq.out,HI.out.pr.last (by omega) (by omega) f1 f2 iP f3 f4 f5 f6 (Cu.out.1 rfl)⟩,ZJ.out⟩⟩
     clear ZJ HTV HV9 Ch Cu;go_wp2;refine bu (results_none rfl _ _ _) rfl ?_;exact HF.out
    ·have hz0:((nv:Int)==0)=false:=by rw[beq_eq_false_iff_ne];omega
     obtain⟨c,hc⟩:∃c,nv=c+1:=⟨nv-1,by omega⟩;have HC:=ae hc;have HK:=ae (Cu.out.2 c hc)
     have BD:nv<=6:=by have:=HK.out.1;have:=jO.out;omega
     have sU:=ae BD;clear hc BD;obtain⟨sdx,rz,hid⟩:=HI.out.jd.ext Ch.out;obtain⟨x0,x1⟩:=lJ rz;have fA:=rz.lt;have HM9:Hid (Mb (ZL X l gs gd) w9):=HI.out.mb.ext Ch.out
     have Au:Hid (∀i,i<nv->aH (zv i).natAbs<=D*15):=by
      have hv:=HK.out.2.2.2.2;intro i hi;rw[hv i hi];have b1:=YN (n:=e) (V:=d+1) (t:=d+1) (G:=aP q.n q.z) (R0:=aP p.n p.z) (xh HI.out.dq) (xh HI.out.dp) (aI _) i;have b2:=eB (D+1) (show d+1<=6 by have:=jO.out;have:=Cs.out;omega);have:=kG.out;omega
     have CO:=ae (qe3 (ZL X l gs gd) av nv cv Xv zv sdx dv (D*15) w9 HM9.out HV9.out hid HI.out.pr.QC (aR sU.out (by decide)) Au.out (by have:=wu.out;omega));clear rz hid;go_wp2_with (fail);refine CO.out.mono ?_;rintro e_ iT ⟨ar,Xr,rfl,hr,KH⟩;rw[<-HTV.out]at hr⊢;have sN:=ae (Ch.out.trans KH);have PT:Hid (gD.ok (ZL X l gs gd) iT ⟨ar,nv,nv,Xr,λi=>(zv i).tdiv dv⟩):=hr;have ku:=ae (HI.out.pr.Qw (by omega) (by omega) HK.out.1 HK.out.2.1 HK.out.2.2.1)
     have HTR:Hid (tz (λi=>(zv i).tdiv dv) nv=nv):=by
      have h1:=ku.out.1;rw[<-HK.out.2.2.2.1]at h1;unfold aP at h1;rw[ai (by omega)]at h1;show _=_;rw[HC.out];exact OY h1
     have Aj:Hid (Db ⟨ar,nv,nv,Xr,λi=>(zv i).tdiv dv⟩):=⟨aR sU.out (by decide),by show tz (λi=>(zv i).tdiv dv) nv≠0;rw[HTR.out];exact oJ,λi hi=>by
      show aH ((zv i).tdiv dv).natAbs<=_;rw[Int.natAbs_tdiv]
      exact aR (jB (Nat.div_le_self _ _)) (aR (Au.out i hi) wu.out)⟩
     have ZH:Hid (J (pre++[q]) iT):=HJ.out _ _ _ JA.out (Same.kV sN.out HWR.out);have Vd:Hid (W.heap.size<=iT.heap.size):=aR HWR.out sN.out.size;have qak:=ae (HI.out.jd.ext sN.out);have qan:=ae (HI.out.js.ext sN.out);have Z7:Hid (q.ok (ZL X l gs gd) iT):=bC.ext HI.out.okq sN.out;have Ma:Hid (Mb (ZL X l gs gd) iT):=HI.out.mb.ext sN.out;clear hr KH CO ZJ HV9 Ch Cu HM9 x0 x1 fA Au sN
     go_upto_region 8 with(fail)
     obtain⟨fn,tmps,assign,body,jh,qD⟩:=HY.out (pre++[q]) ⟨ar,nv,nv,Xr,λi=>(zv i).tdiv dv⟩ iT ZH.out Vd.out (bC.more PT.out λg h=>.inl (Oq g h)) Aj.out;refine(wpIn_wide (n:=2)).1 (wpIn_region_lit ?_)
     gi_wp2_with (fail)
     clear jh;refine qD.mono ?_;rintro e_ vW (⟨rfl,hz,hJ,hk⟩|⟨rfl,hz,hJ,hk⟩)
     ·have j5:1<=c:=by
       have h1:¬tz (λi=>(zv i).tdiv dv) nv=1:=hz;rw[HTR.out,HC.out]at h1;omega
      have FI:Kp (ZL X l gs gd) iT vW:=⟨hk.1,λb hb hn=>hk.2 b hb λh=>hn (Oq b h)⟩
      have hns:¬XL X l gs/\¬XL X l gd:=by
       obtain⟨q1,q2,q3,q4,_⟩:=HI.out.nw;exact⟨λh=>h.elim (λh=>by have:=q4 _ h;omega) λh=>by omega,λh=>h.elim (λh=>by have:=q4 _ h;omega) λh=>by omega⟩
      have qhi:Hid (gD.ok (ZL X l gs gd) vW ⟨ar,nv,nv,Xr,λi=>(zv i).tdiv dv⟩):=bC.kp PT.out FI;have Z8:Hid (q.ok (ZL X l gs gd) vW):=bC.kp Z7.out FI;have UG:Hid (Mb (ZL X l gs gd) vW):=Ma.out.size hk.1;have qhu:=ae (qak.out.kp hk hns.2 Oq);have qhz:=ae (qan.out.kp hk hns.1 Oq);have qgF:=ae hJ;have qaD:Hid (W.heap.size<=vW.heap.size):=aR Vd.out hk.1;have xq:=ae j5;clear hz hJ hk FI hns j5 qD PT Z7 Ma qak qan ZH Vd;have CL:=ae (YG (ZL X l gs gd) q.a q.n q.p q.X q.z vW UG.out Z8.out)
      gi_wp2_with (fail)
      go_wp2_with (fail);refine CL.out.mono ?_;rintro e_ w12 ⟨xl0,rfl,hl0,tL⟩;have ZO:=ae (UG.out.ext tL);have CN:=ae (qoF xl0 _ w12 ZO.out hl0);clear hl0;go_wp2_with (fail);refine CN.out.mono ?_;rintro e_ OZ ⟨xl,rfl,hl,H6⟩
      have iJ:wX q.z q.n=aP q.n q.z e:=by
       unfold wX aP;rw[Mq.out,ah (by omega),ai (by have:=Me.out;omega),Nat.add_sub_cancel]
      rw[iJ]at hl;obtain⟨gl,fA⟩:∃gl,gl=OZ.heap.size:=⟨_,rfl⟩;have aT:=(aA OZ).alloc (.cells #[.bool xl.b,.slice xl.a xl.n xl.p] 30);have bQ:=aG.bq OZ #[.bool xl.b,.slice xl.a xl.n xl.p] 30 2 rfl;rw[<-fA]at bQ;obtain⟨o7,Ht⟩:∃o7,OZ.alloc (.cells #[.bool xl.b,.slice xl.a xl.n xl.p] 30)=o7:=⟨_,rfl⟩;rw[Ht]at aT bQ;have P8:=ae Ht;have qY:=ae fA;have G9:=tL.trans (H6.trans aT)
      have HZG:Hid (∀b,ZL X l gs gd b->b<gl):=λb hb=>by have:=(ZO.out.ext H6) b hb;omega
      have qhj:Hid (gD.ok (ZL X l gs gd) o7 ⟨ar,nv,nv,Xr,λi=>(zv i).tdiv dv⟩):=bC.ext qhi.out G9;have qhb:Hid (q.ok (ZL X l gs gd) o7):=bC.ext Z8.out G9;have PM:Hid (Mb (ZL X l gs gd) o7):=UG.out.ext G9;have qhv:=ae (qhu.out.ext G9);have PW:=ae (qhz.out.ext G9);have qgG:Hid (J ((pre++[q])++[⟨ar,nv,nv,Xr,λi=>(zv i).tdiv dv⟩]) o7):=HJ.out _ _ _ qgF.out (Same.kV G9 qaD.out);have qh2:Hid (W.heap.size<=o7.heap.size):=aR qaD.out G9.size;have qaF:Hid (IX (ZL X l gs gd) o7 xl (-(aP q.n q.z e))):=hl.ext aT;have Pj:=ae bQ
      have qsy:Hid (gs<o7.heap.size):=by obtain⟨_,hb,_⟩:=PW.out;exact hb.lt
      clear aT bQ Ht fA hl tL H6 G9 iJ CL CN ZO UG qhi Z8 qhu qhz qgF qaD;obtain⟨M8,NP⟩:∃M8,M8=o7:=⟨_,rfl⟩
      go_upto_if 58 with(fail)
      clear NP;rw[P8.out, <-qY.out];clear P8 qY
      go_cut [7] (λs7 wx=>s7=.pointer (some ⟨gs,0,none⟩)/\ItC (ZL X l gs gd) o7 gs (tV d (aP q.n q.z e) s) wx)
      case first=>
       by_cases hd:0<d
       ·have hd0:(0:Int)<(d:Int):=by omega
        have hdw:IntKind.i64.wrap ((d:Int)-1)=((d-1:Nat):Int):=by rw[IntWalk.i64_in _ (by have:=jO.out;omega)];omega
        obtain⟨xs,DC,Sg⟩:=PW.out;have bI:=(aA o7).drew;have hS:nH gl 0 xl gs xs o7.drew:=nH.ext ⟨lJ Pj.out,lJ DC,Pj.out.lt,DC.lt⟩ bI;have Ay:=ae (Sg.ext bI);have qaG:=ae (qaF.out.ext bI);clear DC Sg
        go_upto_region 11 with(fail)
        refine TV (nH gl 0 xl gs xs) 12 (by kernel_rfl) hS (λhHeld=>?_);clear hS;generalize o7.drew=wd at*;have C2:=ae (λ(W':World)(he:Ext wd W')=>YF (ZL X l gs gd) xl (-(aP q.n q.z e)) d D W' (PM.out.ext (bI.trans he)) (qaG.out.ext he) (by have:=jO.out;omega) (by rw[Int.natAbs_neg];exact xh HI.out.dq e) (by have:=wu.out;omega));have C6:=ae (λ(W':World)(he:Ext wd W')=>YF (ZL X l gs gd) xs s (d-1) D W' (PM.out.ext (bI.trans he)) (Ay.out.ext he) (by have:=jO.out;omega) HI.out.ds (by have:=wu.out;omega))
        ((refine qR 0 (v:=?_) ?_ ?_;rotate_left 1;(intro wS hSw;obtain⟨⟨S1,S2⟩,⟨S3,S4⟩,S5,S6⟩:=hSw;go_simp;try with_reducible rfl);(try simp only[Act.put,aB,aC,aD]));(refine qR 1 (v:=?_) ?_ ?_;rotate_left 1;(intro wS hSw;obtain⟨⟨S1,S2⟩,⟨S3,S4⟩,S5,S6⟩:=hSw;go_simp;try with_reducible rfl);(try simp only[Act.put,aB,aC,aD]));(refine qR 3 (v:=?_) ?_ ?_;rotate_left 1;(intro wS hSw;obtain⟨⟨S1,S2⟩,⟨S3,S4⟩,S5,S6⟩:=hSw;go_simp;try with_reducible rfl);(try simp only[Act.put,aB,aC,aD]));(refine qR 4 (v:=?_) ?_ ?_;rotate_left 1;(intro wS hSw;obtain⟨⟨S1,S2⟩,⟨S3,S4⟩,S5,S6⟩:=hSw;go_simp;try with_reducible rfl);(try simp only[Act.put,aB,aC,aD]));(refine qR 5 (v:=?_) ?_ ?_;rotate_left 1;(intro wS hSw;obtain⟨⟨S1,S2⟩,⟨S3,S4⟩,S5,S6⟩:=hSw;go_simp;try with_reducible rfl);(try simp only[Act.put,aB,aC,aD])))
        ((refine vX 2 ?_;intro K hK);go_simp;(refine(C2.out _ (aA _)).mono ?_);rintro e_ u1 ⟨y1,rfl,jh,bM⟩;go_wp2_with (fail);(try clear ag);(have ag:=hHeld.ext bM);(refine hK.out _ _ (λ_ _=>ag) ?_);clear hK K;(try simp only[Act.put,aB,aC,aD]))
        ((refine vX 6 ?_;intro K hK);go_simp;(refine(C6.out _ bM).mono ?_);rintro e_ u2 ⟨y2,rfl,hq2,fM⟩;go_wp2_with (fail);(try clear ag);(have ag:=hHeld.ext (bM.trans fM));(refine hK.out _ _ (λ_ _=>ag) ?_);clear hK K;(try simp only[Act.put,aB,aC,aD]))
        have hq1:=jh.ext fM;clear jh;have Wn:=bM.trans fM
        have CQ:=ae (qpK y1 y2 _ _ u2 (PM.out.ext (bI.trans Wn)) hq1 hq2 (K6 HI.out.pr.s0 _) (by
         have h1:=Nn (c:= -(aP q.n q.z e)) (D:=D) (by rw[Int.natAbs_neg];exact xh HI.out.dq e) d;have h2:=eB D (show d<=6 by have:=jO.out;omega);have:=wu.out
         omega))
        clear hq1 hq2
        ((refine vX 7 ?_;intro K hK);go_simp;(refine(CQ.out).mono ?_);rintro e_ u3 ⟨u,v,rfl,hu,lh⟩;go_wp2_with (fail);(try clear ag);(have ag:=hHeld.ext (Wn.trans lh));(refine hK.out _ _ (λ_ _=>ag) ?_);clear hK K;(try simp only[Act.put,aB,aC,aD]))
        ((refine F8 8 (v:=?_) ?_ ?_;rotate_left 1;(intro wS;go_simp;try with_reducible rfl);(try simp only[Act.put,aB,aC,aD]));(refine F8 9 (v:=?_) ?_ ?_;rotate_left 1;(intro wS;go_simp;try with_reducible rfl);(try simp only[Act.put,aB,aC,aD]));(refine F8 10 (v:=?_) ?_ ?_;rotate_left 1;(intro wS;go_simp;try with_reducible rfl);(try simp only[Act.put,aB,aC,aD]));(refine F8 11 (v:=?_) ?_ ?_;rotate_left 1;(intro wS;go_simp;try with_reducible rfl);(try simp only[Act.put,aB,aC,aD])))
        have AZ:=bI.trans (Wn.trans lh);obtain⟨xs',NS,_⟩:=PW.out.ext AZ;obtain⟨k0,k1⟩:=lJ NS;have fV:=NS.frozen 0;have fP:=NS.frozen 1;have mH:=NS.lt
        have HF:Hid (ItC (ZL X l gs gd) o7 gs (tV d (aP q.n q.z e) s) (bW u3 gs 0 (.bool u.b) (.slice u.a u.n u.p))):=by
         refine⟨⟨u,Qm NS u,?_⟩,(Kp.kV AZ).trans (Kp.bW (M:=λb=>b=gs) rfl 0 _ _),(Same.kV AZ (Nat.le_of_lt qsy.out)).bW (aI _) 0 _ _⟩;rw[show tV d (aP q.n q.z e) s=((-(aP q.n q.z e))^d).tdiv (s^(d-1))from ai hd];exact hu.kp (Kp.bW (M:=ZL X l gs gd) (.inl (.inr rfl)) 0 _ _)
        unfold bW at HF;clear NS hu lh AZ Wn CQ ag hHeld bI bM fM
        ((refine vX 12 ?_;intro K hK);go_simp;(refine hK.out _ _ (λh=>absurd rfl h) ?_);clear hK K;refine TP ?_)
        go_wp2_with (fail)
        go_meet
        exact⟨rfl,HF.out⟩
       ·have hd0:¬(0:Int)<(d:Int):=by omega
        have HF:Hid (ItC (ZL X l gs gd) o7 gs (tV d (aP q.n q.z e) s) o7):=⟨by rw[show tV d (aP q.n q.z e) s=s from ah hd];exact PW.out,Kp.refl _ _,Below.refl _ _⟩;go_wp2
        go_meet
        exact⟨rfl,HF.out⟩
      case rest=>
       obtain⟨rfl,hbx,DU,R4⟩:=hcut;have DN:∀b,b=gs->ZL X l gs gd b:=λb hb=>.inl (.inr hb);have FI:Kp (ZL X l gs gd) o7 wc:=⟨DU.1,λb hb hn=>DU.2 b hb λh=>hn (DN b h)⟩;have hgW:W.heap.size<=gs/\gs<gd:=⟨HI.out.nw.2.1,HI.out.nw.2.2.1⟩;have HRc:Hid (gD.ok (ZL X l gs gd) wc ⟨ar,nv,nv,Xr,λi=>(zv i).tdiv dv⟩):=bC.kp qhj.out FI;have HQc:Hid (q.ok (ZL X l gs gd) wc):=bC.kp qhb.out FI;have ZT:Hid (Mb (ZL X l gs gd) wc):=PM.out.size DU.1;have qsw:=ae (qhv.out.kp DU (by omega) DN);have qhB:Hid (Cb (ZL X l gs gd) wc gs (tV d (aP q.n q.z e) s)):=hbx;have Ia:gs<gl:=HZG.out gs (.inl (.inr rfl));have qfU:=ae (Pj.out.of_heap (DU.2 gl Pj.out.lt (by omega)));have qsH:Hid (IX (ZL X l gs gd) wc xl (-(aP q.n q.z e))):=qaF.out.kp FI;have HJc:Hid (J ((pre++[q])++[⟨ar,nv,nv,Xr,λi=>(zv i).tdiv dv⟩]) wc):=HJ.out _ _ _ qgG.out (R4.mono hgW.1);have qh3:Hid (W.heap.size<=wc.heap.size):=aR qh2.out DU.1;have Ut:=ae hgW;have ZG:=ae (HI.out.pr.next (by omega) (by omega) Us.out.1 Us.out.2.1 HK.out.1 HK.out.2.1 HK.out.2.2.1 xq.out);have xA:Hid (aH (tV d (aP q.n q.z e) s).natAbs<=D*15):=quw (xh HI.out.dq e) HI.out.ds (by have:=jO.out;omega) kG.out;have xz:Hid (tV d (aP q.n q.z e) s≠0):=ZG.out.s0;obtain⟨s',kC⟩:∃z,tV d (aP q.n q.z e) s=z:=⟨_,rfl⟩;rw[kC]at qhB ZG xA xz;clear kC hbx DU R4 DN FI hgW Ia qhj qhb PM qhv PW Pj qaF qgG qh2
       have hlq:IntKind.i64.wrap ((q.n:Int)-(nv:Int))=((e-c:Nat):Int):=by
        have h1:=Me.out;have h2:=HC.out;have h3:=HK.out.1;have h4:=jO.out;rw[IntWalk.i64_in _ (by omega)];omega
       go_upto_region 14 with(fail)
       clear hlq;obtain⟨xs,DC,Sg⟩:=qhB.out;have bI:=(aA wc).drew;have hS:nH gl 0 xl gs xs wc.drew:=nH.ext ⟨lJ qfU.out,lJ DC,qfU.out.lt,DC.lt⟩ bI;have Ay:=ae (Sg.ext bI);have qaG:=ae (qsH.out.ext bI);have HBS:=ae DC;clear DC Sg;refine TV (nH gl 0 xl gs xs) 5 (by kernel_rfl) hS (λhHeld=>?_);clear hS;generalize wc.drew=wd at*;have C3:=ae (λ(W':World)(he:Ext wd W')=>YF (ZL X l gs gd) xs s' (e-c) (D*15) W' (ZT.out.ext (bI.trans he)) (Ay.out.ext he) (by have:=jO.out;omega) xA.out (by have:=wu.out;omega))
       ((refine qR 0 (v:=?_) ?_ ?_;rotate_left 1;(intro wS hSw;obtain⟨⟨S1,S2⟩,⟨S3,S4⟩,S5,S6⟩:=hSw;go_simp;try with_reducible rfl);(try simp only[Act.put,aB,aC,aD]));(refine qR 1 (v:=?_) ?_ ?_;rotate_left 1;(intro wS hSw;obtain⟨⟨S1,S2⟩,⟨S3,S4⟩,S5,S6⟩:=hSw;go_simp;try with_reducible rfl);(try simp only[Act.put,aB,aC,aD]));(refine qR 2 (v:=?_) ?_ ?_;rotate_left 1;(intro wS hSw;obtain⟨⟨S1,S2⟩,⟨S3,S4⟩,S5,S6⟩:=hSw;go_simp;try with_reducible rfl);(try simp only[Act.put,aB,aC,aD])))
       ((refine vX 3 ?_;intro K hK);go_simp;(refine(C3.out _ (aA _)).mono ?_);rintro e_ u1 ⟨y1,rfl,jh,bM⟩;go_wp2_with (fail);(try clear ag);(have ag:=hHeld.ext bM);(refine hK.out _ _ (λ_ _=>ag) ?_);clear hK K;(try simp only[Act.put,aB,aC,aD]))
       have CM:=ae (La xl y1 _ _ u1 (ZT.out.ext (bI.trans bM)) (qaG.out.ext bM) jh (by
        have h1:=Nn xA.out (e-c);have h2:=eB (D*15) (show e-c<=6 by have:=jO.out;omega);have h3:=xh HI.out.dq e;rw[Int.natAbs_neg];have:=wu.out
        omega))
       clear jh
       ((refine vX 4 ?_;intro K hK);go_simp;(refine(CM.out).mono ?_);rintro e_ u2 ⟨u,rfl,hu,fM⟩;go_wp2_with (fail);(try clear ag);(have ag:=hHeld.ext (bM.trans fM));(refine hK.out _ _ (λ_ _=>ag) ?_);clear hK K;(try simp only[Act.put,aB,aC,aD]))
       have lK:=bI.trans (bM.trans fM);obtain⟨xd,rz,_⟩:=qsw.out.ext lK;obtain⟨k0,k1⟩:=lJ rz;have fV:=rz.frozen 0;have fP:=rz.frozen 1;have mH:=rz.lt;have bD:=Kp.bW (M:=ZL X l gs gd) (w:=u2) (g:=gd) (.inr rfl) 0 (.bool u.b) (.slice u.a u.n u.p);have hsz:(bW u2 gd 0 (.bool u.b) (.slice u.a u.n u.p)).heap.size=u2.heap.size:=BU _ _ _ _ _
       have HIF:Hid (ItS Jd X (aU Jd x.n x.z) (aU Jd y.n y.z) m n l gs gd W.heap.size c (e-c) (D*15) q ⟨ar,nv,nv,Xr,λi=>(zv i).tdiv dv⟩ s' (-(aP q.n q.z e)*s'^(e-c)) (bW u2 gd 0 (.bool u.b) (.slice u.a u.n u.p))):=by
        have hce:=HK.out.1;refine⟨?_,by have:=Me.out;omega,HC.out,bC.kp (bC.ext HQc.out lK) bD,bC.kp (bC.ext HRc.out lK) bD,⟨xs,(HBS.out.ext lK).of_heap (xU _ _ _ _ _ _ (by have:=Ut.out;omega)),(Ay.out.ext (bM.trans fM)).kp bD⟩,⟨u,Qm rz u,hu.kp bD⟩,by have:=jO.out;omega,by have:=kG.out;omega,?_,λi hi=>aR (HI.out.dq i hi) (by omega),λi hi=>?_,xA.out,(ZT.out.ext lK).size (by rw[hsz];exact aI _),HI.out.nw.1,Ut.out.1,Ut.out.2,HI.out.nw.2.2.2.1,by rw[hsz];exact aR qh3.out lK.size⟩
        ·show AJ Jd m n _ _ c (e-c) (aP q.n q.z) (aP nv λi=>(zv i).tdiv dv) _ _;rw[HC.out,HK.out.2.2.2.1];exact ZG.out
        ·have h1:=HI.out.hD;have h2:15^(c+1)<=15^e:=Nat.pow_le_pow_right (by decide) hce;have h3:=Nat.mul_le_mul_left D h2;rw[Nat.pow_succ,Nat.mul_comm (15^c) 15, <-Nat.mul_assoc]at h3;omega
        ·show aH ((zv i).tdiv dv).natAbs<=_;rw[Int.natAbs_tdiv];refine aR (jB (Nat.div_le_self _ _)) ?_;rw[HK.out.2.2.2.2 i hi];have b1:=YN (n:=e) (V:=d+1) (t:=d+1) (G:=aP q.n q.z) (R0:=aP p.n p.z) (xh HI.out.dq) (xh HI.out.dp) (aI _) i;have b2:=eB (D+1) (show d+1<=6 by have:=jO.out;have:=Cs.out;omega);have:=kG.out;omega
       have HJF:Hid (J ((pre++[q])++[⟨ar,nv,nv,Xr,λi=>(zv i).tdiv dv⟩]) (bW u2 gd 0 (.bool u.b) (.slice u.a u.n u.p))):=
        HJ.out _ _ _ HJc.out ((Same.kV lK qh3.out).bW (by have:=Ut.out;omega) 0 _ _)
       unfold bW at HIF HJF;clear rz hu bD hsz lK CM C3 hHeld ag bI bM fM HBS;have HLL:=Aj
       ((refine vX 5 ?_;intro K hK);go_simp;(refine hK.out _ _ (λh=>absurd rfl h) ?_);clear hK K;refine TP ?_)
       go_wp2
       go_roundw
       case rel=>exact⟨c,e-c,D*15,q,⟨ar,nv,nv,Xr,λi=>(zv i).tdiv dv⟩,s',_,pre++[q],rfl,rfl,rfl,HJF,HLL,HIF⟩
       case measure=>
        show nv<q.n;have:=Me.out;have:=HC.out;have:=HK.out.1;omega
     ·have HF:Hid ((∃v,Ending.returned (.tuple #[])=.returned v)/\∃pre x',x'.ok (XL X l) vW/\Db x'/\((JZ Jd (aU Jd x.n x.z) (aU Jd y.n y.z) x'/\J (pre++[x']) vW)\/(MI Jd (aU Jd x.n x.z) (aU Jd y.n y.z) x'/\Jx (pre++[x']) vW))):=by
       obtain⟨f1,f2,f3,f4,f5,f6⟩:=Us.out;have h1:tz (λi=>(zv i).tdiv dv) nv=1:=hz
       have jY:c=0:=by rw[HTR.out,HC.out]at h1;omega
       exact⟨⟨_,rfl⟩,pre++[q],_,bC.kp (bC.more PT.out λg h=>.inl (Oq g h)) hk,Aj.out,.inr ⟨⟨hz,HI.out.pr.const (by omega) (by omega) f1 f2 iP f3 f4 f5 f6 HK.out.1 HK.out.2.1 HK.out.2.2.1 jY⟩,hJ⟩⟩
      clear hz hJ hk qD PT Z7 Ma qak qan ZH Vd
      gi_wp2_with (fail)
      go_wp2;refine bu (results_none rfl _ _ _) rfl ?_;exact HF.out
  ·have HF:Hid ((∃v,Ending.returned (.tuple #[])=.returned v)/\∃pre x',x'.ok (XL X l) w4/\Db x'/\((JZ Jd (aU Jd x.n x.z) (aU Jd y.n y.z) x'/\J (pre++[x']) w4)\/(MI Jd (aU Jd x.n x.z) (aU Jd y.n y.z) x'/\Jx (pre++[x']) w4))):=
    ⟨⟨_,rfl⟩,[⟨a1,m+1,m+1,X1,x.z⟩],⟨a2,n+1,n+1,X2,y.z⟩,bC.kp lT.out mI,Gm.out,.inr ⟨⟨FP,yx.out (by have h1:tz y.z (n+1)=1:=FP;have h2:=Cz.out;omega)⟩,Q5⟩⟩
   clear Q5 FP mI qD ZI Ve yo lT
   gi_wp2_with (fail)
   go_wp2;refine bu (results_none rfl _ _ _) rfl ?_;exact HF.out
 ·have HF:Hid ((∃v,Ending.returned (.tuple #[])=.returned v)/\∃pre x',x'.ok (XL X l) w3/\Db x'/\((JZ Jd (aU Jd x.n x.z) (aU Jd y.n y.z) x'/\J (pre++[x']) w3)\/(MI Jd (aU Jd x.n x.z) (aU Jd y.n y.z) x'/\Jx (pre++[x']) w3))):=
   ⟨⟨_,rfl⟩,[],⟨a1,m+1,m+1,X1,x.z⟩,bC.kp HA.out tN,PK.out,.inr ⟨⟨vN,yx.out (by have h1:tz x.z (m+1)=1:=vN;have h2:=Ap.out;omega)⟩,Q4⟩⟩
  clear Q4 vN tN qD Ey Vb HA HB aZ
  gi_wp2_with (fail)
  repeat(first|(refine⟨λ_ h=>(by cases h),?_⟩;gi_wp2_with (fail)))
  go_wp2;refine bu (results_none rfl _ _ _) rfl ?_;exact HF.out
end Go.Proofs.YtmcfpnmoklnhoaaGreat
