/- Yc -/
import Derived.Test.YtmcfpnmoklnhoaaGreatYb
import Derived.Test.YtmcfpnmoklnhoaaGreatNe
import Derived.Test.YtmcfpnmoklnhoaaGreatYa
import Derived.Test.YtmcfpnmoklnhoaaGreatXb
set_option linter.unusedVariables false
set_option maxRecDepth 100000
set_option maxHeartbeats 400000000
set_option linter.unusedSimpArgs false
namespace Go.Proofs.YtmcfpnmoklnhoaaGreat
open Go.RowKit
structure eY where
 a:Option Addr
 n:Nat
 p:Nat
 X:Nat->IE
 z:Nat->Int
def eY.ok(M:Nat->Prop)(W:World)(x:eY):Prop:=bg M W x.a x.n x.p x.X x.z
def XL(X:Nat->Prop)(l:Nat)(b:Nat):Prop:=X b\/b=l
def RZ(x:eY):Prop:=tz x.z x.n=1
abbrev Same(B:Nat)(W W':World):Prop:=Below B W W'
def ZH(X:Nat->Prop)(n:Nat)(P:Program)(g:Nat)(lb:Array Value)(Lv S Sp:eY->Prop)(w:World):Prop:=
 ∀(l:Nat)(J Jx:List eY->World->Prop)(W:World),Below w.heap.size w W->Mb X W->w.heap.size<=l->l<W.heap.size->(∀s A B,J s A->Same W.heap.size A B->J s B)->(∀s A B,Jx s A->Same W.heap.size A B->Jx s B)->
  (∀pre x W1,J pre W1->W.heap.size<=W1.heap.size->x.ok (XL X l) W1->Lv x->YieldAt Fence.wide (n-1) P l #[.slice x.a x.n x.p] W1 λe W'=>(e=.returned (.bool true)/\¬RZ x/\J (pre++[x]) W'/\Kp (XL X l) W1 W')\/(e=.returned (.bool false)/\RZ x/\Jx (pre++[x]) W'/\Kp (XL X l) W1 W'))->
  J [] W->CallsIn Fence.wide n P g (#[.func (.yield l) #[] #[]]++lb) W λe W'=>(∃v,e=.returned v)/\∃pre x,x.ok (XL X l) W'/\Lv x/\((S x/\J (pre++[x]) W')\/(Sp x/\Jx (pre++[x]) W'))
def qq2(X:Nat->Prop)(I:List eY->World->Prop)(id:Nat)(pre:List eY)(x:eY)(W:World):Exit->Act->World->Prop
 | .normal,_,W'=>¬RZ x/\Kp X W W'/\I (pre++[x]) W'
 | .exit k,_,W'=>k=id/\RZ x/\Kp X W W'/\I (pre++[x]) W'
 |_,_,_=>False
theorem G8{B l:Nat}{W:World}(o:Obj)(h:B<=l):Same B W (W.putObj l o):=⟨rfl,rfl,rfl,by simp[World.putObj],λb hb=>World.putObj_heap_other (by omega)⟩
theorem Q9{X:Nat->Prop}{l:Nat}{W:World}(o:Obj):Kp (XL X l) W (W.putObj l o):=⟨by simp[World.putObj],λb _ hb=>World.putObj_heap_other λe=>hb (.inr e)⟩
section
variable{n:Nat}{P:Program}
theorem qz7{g:Operand}{ps:Array Tmp}{assign body:Code}{Q:Exit->Act->World->Prop}{a:Act}{w w0:World}
 (h1:1<=n) {gf:Nat} {lb:Array Value} (hg:a.eval g=.func (.func gf) #[] lb) (eg:∀args w,(callFunc gf args).run P w=.ok (.enter gf args) w)
 {X:Nat->Prop} {Lv S Sp:eY->Prop} (qvm:ZH (λb=>X b\/b=w.heap.size) (n-1) P gf lb Lv S Sp w0) (jZ:Below w0.heap.size w0 w) (Me:ps.size=1) (hX:∀b,X b->b<w.heap.size)
 (I:List eY->World->Prop) (hI:∀s A B,I s A->Same w.heap.size A B->I s B) (id:Nat) (a₁:eY->Act)
 (hassign:∀(l:Nat)(x:eY)(W:World)(K:Act->World->Prop),K (a₁ x) W->
  assign.wpIn (Fence.wide.inRound l) (n-1-1) P (Exit.then K (λ_ _ _=>False)) {tmps:=(ps.zip #[Value.slice x.a x.n x.p]).foldl (λt(p,v)=>t.setIfInBounds p v) a.tmps,defers:=[]} W)
 (hbody:∀(l:Nat)(pre:List eY)(x:eY)(W:World),I pre W->w.heap.size<=W.heap.size->x.ok (XL (λb=>X b\/b=w.heap.size) l) W->Lv x->body.wpIn (Fence.wide.inRound l) (n-1-1) P (qq2 X I id pre x W) (a₁ x) W)
 (h0:I [] w)
 (hdone:∀(pre:List eY)(x:eY)(W:World),w.heap.size<=W.heap.size->S x->Lv x->x.ok (λb=>X b\/b=w.heap.size) W->I (pre++[x]) W->W.heap[w.heap.size]?=some (.deferred (some []))->Q .normal {a with defers:={target:=.collected w.heap.size,args:= #[]}::a.defers} W)
 (hstop:∀(pre:List eY)(x:eY)(W:World),w.heap.size<=W.heap.size->Sp x->Lv x->x.ok (λb=>X b\/b=w.heap.size) W->I (pre++[x]) W->W.heap[w.heap.size]?=some (.deferred (some []))->(Code.exit id).wpIn Fence.wide n P Q {a with defers:={target:=.collected w.heap.size,args:= #[]}::a.defers} W):
 (Code.rangeFunc g ps assign body).wpIn Fence.wide n P Q a w:=by
 refine wpIn_rangeFunc λfn PM=>?_
 let R:LoopState->Option Code->Loop:=λst pe=>{state:=st,pending:=pe,fn,tmps:=a.tmps,params:=ps,assign,body,defers:=w.heap.size}
 let W1:=(w.alloc (.deferred (some []))).alloc (.loop (R .ready none))
 have dP:W1.heap.size=w.heap.size+2:=by show((w.alloc _).alloc _).heap.size=_;simp
 have hL:vX w.heap.size (R .ready none) W1:=by
  have h2:=World.alloc_heap_new (w.alloc (.deferred (some []))) (.loop (R .ready none));rw[World.size_alloc]at h2;exact⟨h2,(Below.heap_alloc _ _ _ (by simp)).trans (World.alloc_heap_new w _)⟩
 have hS1:Same w.heap.size w W1:=((Below.refl _ w).alloc (Nat.le_refl _) _).alloc (by simp) _;have qma:∀{r:Loop}{A B:World},vX w.heap.size r A->Same W1.heap.size A B->vX w.heap.size r B:=λh k=>⟨(k.block _ (by omega)).trans h.1,(k.block _ (by omega)).trans h.2⟩;have ql9:∀{s:List eY}{A B:World},I s A->Same W1.heap.size A B->I s B:=λh k=>hI _ _ _ h (k.mono (by omega))
 have qwc:∀{r:Loop}{A B:World},vX w.heap.size r A->Kp X A B->vX w.heap.size r B:=λh k=>by
  have:=h.lt;exact⟨(k.2 _ (by omega) λhx=>by have:=hX _ hx;omega).trans h.1,(k.2 _ (by omega) λhx=>by have:=hX _ hx;omega).trans h.2⟩
 rw[Fence.wide_round];refine⟨w.heap.size+1,_,W1,{target:=.fn (.func gf) lb,args:= #[.func (.yield (w.heap.size+1)) #[] #[]]},W1,gf,#[.func (.yield (w.heap.size+1)) #[] #[]]++lb,W1,run_enterLoop_outer _ _ _ _ _,?_,?_,?_,λ_=>h1,?_⟩
 ·simp only[resolve,hg];simp[go_sem]
 ·intro f' hf';trivial
 ·simp[invoke,go_sem,eg]
 refine(qvm (w.heap.size+1) (λpre W=>I pre W/\vX w.heap.size (R .ready none) W) (λpre W=>I pre W/\vX w.heap.size (R .done (some (.exit id))) W) W1 (jZ.trans ((((Below.refl _ w).alloc (Nat.le_refl _) _).alloc (by simp) _).mono jZ.size)) (λb hb=>hb.elim (λh=>by have:=hX b h;omega) λh=>by omega) (Nat.le_trans jZ.size (by omega)) (by omega)
  (λs A B hs k=>⟨ql9 hs.1 k,qma hs.2 k⟩) (λs A B hs k=>⟨ql9 hs.1 k,qma hs.2 k⟩) ?_ ⟨hI _ _ _ h0 hS1,hL⟩).mono ?_
 ·rintro pre x W ⟨hi,hl⟩ hsz gJ gI;refine⟨fn,_,assign,body,run_yield (args:= #[.slice x.a x.n x.p]) hl.1 (by show(1:Nat)=ps.size;omega),roundIn_of_wpIn PM (hassign _ x W _ ⟨_,run_beginRound hl.1 rfl,?_⟩)⟩;have hlB:=hl.put (R .busy none);refine wpIn_mono (hbody _ pre x _ (hI _ _ _ hi (G8 _ (by omega))) (Nat.le_trans (Nat.le_of_lt (Nat.lt_of_succ_lt hl.lt)) (G8 (B:=0) _ (Nat.zero_le _)).size) (bg.kp gJ (Q9 _)) gI) ?_;intro e a3 W3 hp
  have fin:∀(jump:Option Code),Kp X (W.putObj (w.heap.size+1) (.loop (R .busy none))) W3->I (pre++[x]) W3->
   (Instr.endRound (w.heap.size+1) jump).run P W3=.ok (.bool jump.isNone) (W3.putObj (w.heap.size+1) (.loop (R (if jump.isNone then .ready else .done) jump)))/\
   (I (pre++[x]) (W3.putObj (w.heap.size+1) (.loop (R (if jump.isNone then .ready else .done) jump)))/\vX w.heap.size (R (if jump.isNone then .ready else .done) jump) (W3.putObj (w.heap.size+1) (.loop (R (if jump.isNone then .ready else .done) jump))))/\
   Kp (XL (λb=>X b\/b=w.heap.size) (w.heap.size+1)) W (W3.putObj (w.heap.size+1) (.loop (R (if jump.isNone then .ready else .done) jump))):=λjump rP PT=>by
   have UY:=qwc hlB rP;exact⟨run_endRound jump UY.1,⟨hI _ _ _ PT (G8 _ (by omega)),UY.put _⟩,(Q9 _).trans (Kp.trans ⟨rP.1,λb hb hn=>rP.2 b hb λh=>hn (.inl (.inl h))⟩ (Q9 _))⟩
  cases e with
  |normal=>
   obtain⟨hr,hj,hk⟩:=fin none hp.2.1 hp.2.2;exact⟨_,_,hr,.inl ⟨rfl,hp.1,hj,hk⟩⟩
  |ret=>exact hp.elim
  |exit k=>
   obtain⟨rfl,hz,hp1,hp2⟩:=hp;obtain⟨hr,hj,hk⟩:=fin (some (.exit k)) hp1 hp2;exact⟨_,_,hr,.inr ⟨rfl,hz,hj,hk⟩⟩
  |goto t=>exact hp.elim
  |panic ch=>exact hp.elim
  |outgrown=>exact hp.elim
 ·rintro e W2 ⟨⟨v,rfl⟩,pre,x,gJ,gI,(⟨hS,hi,hl⟩|⟨hSp,hi,hl⟩)⟩
  ·have Ce:=hl.lt;exact⟨none,_,run_endLoop hl.1 (by intro h;cases h),hdone pre x _ (Nat.le_trans (Nat.le_of_lt (Nat.lt_of_succ_lt hl.lt)) (G8 (B:=0) _ (Nat.zero_le _)).size) hS gI (bg.more ((bg.kp gJ (Q9 _))) (λg hg=>.inl (.inl hg))) (hI _ _ _ hi (G8 _ (by omega))) ((World.putObj_heap_other (by omega)).trans hl.2)⟩
  ·have Ce:=hl.lt;exact⟨some _,_,run_endLoop hl.1 (by intro h;cases h),hstop pre x _ (Nat.le_trans (Nat.le_of_lt (Nat.lt_of_succ_lt hl.lt)) (G8 (B:=0) _ (Nat.zero_le _)).size) hSp gI (bg.more ((bg.kp gJ (Q9 _))) (λg hg=>.inl (.inl hg))) (hI _ _ _ hi (G8 _ (by omega))) ((World.putObj_heap_other (by omega)).trans hl.2)⟩
end
def FH(ca cb:Nat)(x y:eY)(w:World):Prop:=w.cell? ⟨ca,0,none⟩=some (.slice x.a x.n x.p)/\w.cell? ⟨cb,0,none⟩=some (.slice y.a y.n y.p)
theorem FH.ext{ca cb:Nat}{x y:eY}{w w':World}(h:FH ca cb x y w)(he:Ext w w'):FH ca cb x y w':=by
 have h1:=World.block_lt_of_cell? _ _ h.1;have h2:=World.block_lt_of_cell? _ _ h.2;unfold FH;rw[he.cell h1,he.cell h2];exact h
theorem Same.jC{B:Nat}{W W':World}(h:Ext W W')(hB:B<=W.heap.size):Same B W W':=Below.mono h hB
theorem Same.bK{B:Nat}{a w:World}(h:Same B a w){g:Nat}(hg:B<=g)(o:Nat)(e0 e1:Value):Same B a (Go.Proofs.YtmcfpnmoklnhoaaGreat.bK w g o e0 e1):=⟨h.os,h.tape,h.output,by rw[Aw];exact h.size,λk hk=>(wK w g o e0 e1 k (by omega)).trans (h.block k hk)⟩
def Bn(x:eY):Prop:=x.n<=7/\tz x.z x.n≠0/\∀i,i<x.n->az (x.z i).natAbs<=1000000000
def IB(Jd:Nat)(F G:List Tm)(x:eY):Prop:=∃k,tz x.z x.n=k+1/\GK Jd F G k
def KM(Jd:Nat)(F G:List Tm)(x:eY):Prop:=RZ x/\GK Jd F G 0
def ZL(X:Nat->Prop)(l gs gd:Nat)(b:Nat):Prop:=(XL X l b\/b=gs)\/b=gd
def AJ(M:Nat->Prop)(w:World)(g:Nat)(z:Int):Prop:=∃x:IE,ak w g 30 2 (arr #[.bool x.b,.slice x.a x.n x.p])/\IX M w x z
theorem AJ.ext{M:Nat->Prop}{w w':World}{g:Nat}{z:Int}(h:AJ M w g z)(he:Ext w w'):AJ M w' g z:=by
 obtain⟨x,h1,h2⟩:=h;exact⟨x,h1.ext he,h2.ext he⟩
theorem AJ.kp{M M':Nat->Prop}{w w':World}{g:Nat}{z:Int}(h:AJ M w g z)(he:Kp M' w w')(hg:¬M' g)(hm:∀b,M' b->M b):AJ M w' g z:=by
 obtain⟨x,h1,h2⟩:=h;exact⟨x,h1.of_heap (he.2 g h1.lt hg),h2.kp ⟨he.1,λb hb hn=>he.2 b hb λh=>hn (hm b h)⟩⟩
structure Y7(Jd:Nat)(X:Nat->Prop)(F G:List Tm)(m n l gs gd B0:Nat)(e d D:Nat)(p q:eY)(s dv:Int)(w:World):Prop where
 pr:yY Jd m n F G e d (aM p.n p.z) (aM q.n q.z) s dv
 np:p.n=e+d+1
 nq:q.n=e+1
 okp:p.ok (ZL X l gs gd) w
 okq:q.ok (ZL X l gs gd) w
 js:AJ (ZL X l gs gd) w gs s
 jd:AJ (ZL X l gs gd) w gd dv
 ed:e+d<=6
 D1:1<=D
 hD:D*15^e<=1000000000
 dp:∀i,i<p.n->az (p.z i).natAbs<=D
 dq:∀i,i<q.n->az (q.z i).natAbs<=D
 ds:az s.natAbs<=D
 mb:Mb (ZL X l gs gd) w
 nw:l<B0/\B0<=gs/\gs<gd/\(∀b,X b->b<B0)/\B0<=w.heap.size
theorem qv5{e d nv:Nat}{A B zv:Nat->Int}{dv:Int}(h1:nv=tz zv nv)(h2:∀i,aM nv zv i=aM e (zR e (d+1) B A (d+1)) i):
 (nv=0->∀i,i<e->zR e (d+1) B A (d+1) i=0)/\∀c,nv=c+1->c<e/\zR e (d+1) B A (d+1) c≠0/\(∀i,c<i->i<e->zR e (d+1) B A (d+1) i=0)/\aM (c+1) (λi=>(zv i).tdiv dv)=l8 e d A B dv/\∀i,i<nv->zv i=zR e (d+1) B A (d+1) i:=by
 have k:∀i,i<e->zR e (d+1) B A (d+1) i=aM nv zv i:=λi hi=>by
  rw[h2 i];unfold aM;rw[if_pos hi]
 have k':∀i,e<=i->aM nv zv i=0:=λi hi=>by
  rw[h2 i];unfold aM;exact if_neg (by omega)
 refine⟨λh0 i hi=>?_,?_⟩
 ·rw[k i hi];unfold aM;exact if_neg (by omega)
 ·rintro c rfl
  have ht:zv c≠0:=by
   have:=(Ho zv (c+1)).resolve_left (by omega);rw[<-h1]at this;exact this
  have hce:c<e:=Classical.byContradiction λhc=>ht (by
   have:=k' c (by omega);unfold aM at this;rw[if_pos (by omega)]at this
   exact this)
  have hv:∀i,i<c+1->zv i=zR e (d+1) B A (d+1) i:=λi hi=>by
   rw[k i (by omega)];unfold aM;rw[if_pos hi]
  have hz:∀i,c<i->i<e->zR e (d+1) B A (d+1) i=0:=λi h3 h4=>by
   rw[k i h4];unfold aM;exact if_neg (by omega)
  refine⟨hce,by rw[<-hv c (by omega)];exact ht,hz,funext λi=>?_,hv⟩;show(if i<c+1 then(zv i).tdiv dv else 0)=l8 e d A B dv i;unfold l8
  by_cases hi:i<c+1
  ·rw[if_pos hi,if_pos (by omega),hv i hi]
  ·rw[if_neg hi]
   split
   ·rename_i h5;rw[hz i (by omega) h5];exact(Int.zero_tdiv _).symm
   ·rfl
def ItR(Jd:Nat)(J:List eY->World->Prop)(X:Nat->Prop)(F G:List Tm)(m n l gs gd B0:Nat)(i4 i5 i6:Value)(wr:World):Prop:=
 ∃e d D p q s dv pre,i4=.slice p.a p.n p.p/\i5=.slice q.a q.n q.p/\i6=.int .i64 ((d:Nat):Int)/\Hid (J (pre++[q]) wr)/\Hid (Bn q)/\Hid (Y7 Jd X F G m n l gs gd B0 e d D p q s dv wr)
def Y6(Z:Nat->Prop)(W0:World)(gs:Nat)(v:Int)(wx:World):Prop:=AJ Z wx gs v/\Kp (λb=>b=gs) W0 wx/\Same gs W0 wx
theorem qsd{d D:Nat}{l s:Int}(hl:az l.natAbs<=D)(hs:az s.natAbs<=D)(hd:d<=6)(hD:1<=D):az (rX d l s).natAbs<=D*15:=by
 unfold rX
 split
 ·rw[Int.natAbs_tdiv];refine Nat.le_trans (ji (Nat.div_le_self _ _)) ?_;have h1:=Lg (c:= -l) (D:=D) (by rw[Int.natAbs_neg];exact hl) d;have h2:=Nat.mul_le_mul_right D hd;omega
 ·omega
def lenOf:Value->Nat
 | .slice _ n _=>n
 |_=>0
theorem qym(Jd:Nat)(j1:1<=Jd)(j4:Jd<=4)(X:Nat->Prop)(w:World)(ca cb:Nat)(x y:eY)(m n D:Nat)(hc:FH ca cb x y w)(hX:¬X ca/\¬X cb)(hx:x.ok X w)(hy:y.ok X w)(tx:tz x.z x.n=m+1)(ty:tz y.z y.n=n+1)(gY:n<=m)(yh:m<=6)(O8:1<=D)(hD:D*15^7<=1000000000)(dx:∀i,i<x.n->az (x.z i).natAbs<=D)(dy:∀i,i<y.n->az (y.z i).natAbs<=D):
 ZH X 2 Tryz.prog 141 #[.pointer (some ⟨ca,0,none⟩),.pointer (some ⟨cb,0,none⟩)] Bn (IB Jd (aP Jd x.n x.z) (aP Jd y.n y.z)) (KM Jd (aP Jd x.n x.z) (aP Jd y.n y.z)) w:=by
 intro l J Jx W hW I5 hwl hlW hJ hJx hY h0;have Gf:Ext w W:=hW;have HY:=Lib.hid hY;have HJ:=Lib.hid hJ;have HJX:=Lib.hid hJx;have HX:=Lib.hid hx;have Iu:=Lib.hid hy;have HM:=Lib.hid I5;have HC:=Lib.hid (hc.ext Gf);have HE:=Lib.hid Gf
 have xu:Hid (Mb (XL X l) W):=λb hb=>hb.elim (λh=>I5 b h) λh=>by omega
 have sS:∀g,XL X l g->X g\/w.heap.size<=g:=λg h=>h.imp id λe=>by omega
 have ku:Hid (x.ok (XL X l) W):=(bg.more hx sS).ext Gf;have qE:Hid (y.ok (XL X l) W):=(bg.more hy sS).ext Gf;clear hY hJ hJx hx hy I5 hc hW sS;refine callsIn_wide.2 ?_;show Calls Tryz.prog 141 #[.func (.yield l) #[] #[],.pointer (some ⟨ca,0,none⟩),.pointer (some ⟨cb,0,none⟩)] W _
 go_enter Tryz.func141,Tryz.ntmps141
 go_upto_region 0 with(fail)
 have cO:=(Ext.refl W).drew;have hS:=HC.out.ext cO;refine Rw (FH ca cb x y) 5 (by kernel_rfl) hS (λhHeld=>?_);clear hS;generalize W.drew=wd at*;have C1:=Lib.hid (λ(W':World)(he:Ext wd W')=>Rq (XL X l) x.a x.n x.p x.X x.z W' (xu.out.ext (cO.trans he)) (ku.out.ext (cO.trans he)));have C3:=Lib.hid (λ(W':World)(he:Ext wd W')=>Rq (XL X l) y.a y.n y.p y.X y.z W' (xu.out.ext (cO.trans he)) (qE.out.ext (cO.trans he)));rw[tx]at C1;rw[ty]at C3
 ((refine pQ 0 (v:=?_) ?_ ?_;rotate_left 1;(intro wS hSw;obtain⟨S1,S2⟩:=hSw;go_simp;try with_reducible rfl);(try simp only[Act.put,aD,aF,aG]));(refine pQ 2 (v:=?_) ?_ ?_;rotate_left 1;(intro wS hSw;obtain⟨S1,S2⟩:=hSw;go_simp;try with_reducible rfl);(try simp only[Act.put,aD,aF,aG])))
 ((refine uJ 1 ?_;intro K hK);go_simp;(refine(C1.out _ (Ext.refl _)).mono ?_);rintro e_ u1 ⟨a1,X1,rfl,hu1,bN⟩;go_wp2_with (fail);(try clear ag);(have ag:=hHeld.ext bN);(refine hK.out _ _ (λ_ _=>ag) ?_);clear hK K;(try simp only[Act.put,aD,aF,aG]))
 ((refine uJ 3 ?_;intro K hK);go_simp;(refine(C3.out _ bN).mono ?_);rintro e_ u2 ⟨a2,X2,rfl,oJ,iG⟩;go_wp2_with (fail);(try clear ag);(have ag:=hHeld.ext (bN.trans iG));(refine hK.out _ _ (λ_ _=>ag) ?_);clear hK K;(try simp only[Act.put,aD,aF,aG]))
 ((refine EW 4 (v:=?_) ?_ ?_;rotate_left 1;(intro wS;go_simp;try with_reducible rfl);(try simp only[Act.put,aD,aF,aG])))
 have aU:=Lib.hid (cO.trans (bN.trans iG));have HA:Hid (eY.ok (XL X l) u2 ⟨a1,m+1,m+1,X1,x.z⟩):=hu1.ext iG;have HB:Hid (eY.ok (XL X l) u2 ⟨a2,n+1,n+1,X2,y.z⟩):=oJ;have Dl:Hid (J [] u2):=HJ.out _ _ _ h0 (Same.jC aU.out (Nat.le_refl _));clear hu1 oJ bN iG C1 C3 h0 hHeld ag ku qE cO HC
 ((refine uJ 5 ?_;intro K hK);go_simp;(refine hK.out _ _ (λh=>absurd rfl h) ?_);clear hK K;refine Rs ?_)
 go_upto_region 1 with(fail)
 have yR:Hid (tz x.z (m+1)=m+1):=by show _=_;have:=Wt x.z x.n;rw[tx]at this;exact this
 have Bg:Hid (tz y.z (n+1)=n+1):=by show _=_;have:=Wt y.z y.n;rw[ty]at this;exact this
 have Vi:m+1<=x.n:=tx ▸ jr x.z x.n;have Vk:n+1<=y.n:=ty ▸ jr y.z y.n;have zm:D<=1000000000:=Nat.le_trans (Nat.le_mul_of_pos_right D (by decide)) hD;have NP:Hid (Bn ⟨a1,m+1,m+1,X1,x.z⟩):=⟨Nat.succ_le_succ yh,by show tz x.z (m+1)≠0;rw[yR.out];omega,λi hi=>Nat.le_trans (dx i (Nat.lt_of_lt_of_le hi Vi)) zm⟩;have Fj:Hid (Bn ⟨a2,n+1,n+1,X2,y.z⟩):=⟨Nat.succ_le_succ (Nat.le_trans gY yh),by show tz y.z (n+1)≠0;rw[Bg.out];omega,λi hi=>Nat.le_trans (dy i (Nat.lt_of_lt_of_le hi Vk)) zm⟩;have xn:Hid (n=0->GK Jd (aP Jd x.n x.z) (aP Jd y.n y.z) 0):=λh=>qie (by omega) (by omega) (pM _ _ _) (pM _ _ _) gY (CX (by omega) (by omega) (Ay tx).1) (CX (by omega) (by omega) (Ay ty).1) (BH (by omega) (by omega) tx) (BH (by omega) (by omega) ty) (.inl h);have Td:W.heap.size<=u2.heap.size:=aU.out.size;obtain⟨fn,tmps,assign,body,iy,pE⟩:=HY.out [] ⟨a1,m+1,m+1,X1,x.z⟩ u2 Dl.out Td HA.out NP.out;refine(wpIn_wide (n:=2)).1 (wpIn_region_lit ?_)
 gi_wp2_with (fail)
 clear iy;refine pE.mono ?_;rintro e w3 (⟨rfl,uD,Pj,rP⟩|⟨rfl,uD,Pj,rP⟩)
 ·have Nt:Hid (eY.ok (XL X l) w3 ⟨a1,m+1,m+1,X1,x.z⟩):=bg.kp HA.out rP;have og:Hid (eY.ok (XL X l) w3 ⟨a2,n+1,n+1,X2,y.z⟩):=bg.kp HB.out rP;have Tf:W.heap.size<=w3.heap.size:=Nat.le_trans Td rP.1;have XU:=Lib.hid Pj;clear Pj uD rP pE Dl Td HA HB aU
  gi_wp2_with (fail)
  obtain⟨fn,tmps,assign,body,iy,pE⟩:=HY.out [⟨a1,m+1,m+1,X1,x.z⟩] ⟨a2,n+1,n+1,X2,y.z⟩ w3 XU.out Tf og.out Fj.out
  gi_wp2_with (fail)
  clear iy;refine pE.mono ?_;rintro e w4 (⟨rfl,EG,Pk,ll⟩|⟨rfl,EG,Pk,ll⟩)
  ·have Nu:Hid (eY.ok (XL X l) w4 ⟨a1,m+1,m+1,X1,x.z⟩):=bg.kp Nt.out ll;have tL:Hid (eY.ok (XL X l) w4 ⟨a2,n+1,n+1,X2,y.z⟩):=bg.kp og.out ll;have YU:W.heap.size<=w4.heap.size:=Nat.le_trans Tf ll.1;have Ib:Hid (J ([⟨a1,m+1,m+1,X1,x.z⟩]++[⟨a2,n+1,n+1,X2,y.z⟩]) w4):=Pk
   have mJ:1<=n:=by
    have h1:¬tz y.z (n+1)=1:=EG;rw[Bg.out]at h1;omega
   clear Pk EG ll pE XU Tf Nt og;have yO:Hid (Mb (XL X l) w4):=xu.out.size YU
   gi_wp2_with (fail)
   go_upto_region 3 with(fail)
   rw[show((m:Int)+1-((n:Int)+1))=((m-n:Nat):Int) by omega];go_wp2_with (fail);refine(ofI (-1) w4 yO.out (by omega)).mono ?_;rintro e w5 ⟨sx,rfl,Qj,aR⟩;obtain⟨gs,yg⟩:∃gs,gs=w5.heap.size:=⟨_,rfl⟩;have aN:=(Ext.refl w5).alloc (.cells #[.bool sx.b,.slice sx.a sx.n sx.p] 30);have bH:=ak.bf w5 #[.bool sx.b,.slice sx.a sx.n sx.p] 30 2 rfl;rw[<-yg]at bH;obtain⟨W6,jy⟩:∃W6,w5.alloc (.cells #[.bool sx.b,.slice sx.a sx.n sx.p] 30)=W6:=⟨_,rfl⟩;rw[jy]at aN bH;have p9:=Lib.hid jy;have vS:=Lib.hid yg
   have qup:W.heap.size<=gs:=by have:=aR.size;omega
   have Ls:=aR.trans aN
   have qbV:∀g,(XL X l g\/g=gs)->XL X l g\/w4.heap.size<=g:=λg h=>h.imp id λe=>by have:=aR.size;omega
   have Dc:Hid (eY.ok (λb=>XL X l b\/b=gs) W6 ⟨a1,m+1,m+1,X1,x.z⟩):=bg.ext (bg.more Nu.out qbV) Ls;have jV:Hid (eY.ok (λb=>XL X l b\/b=gs) W6 ⟨a2,n+1,n+1,X2,y.z⟩):=bg.ext (bg.more tL.out qbV) Ls;have X7:Hid (Mb (λb=>XL X l b\/b=gs) W6):=mO (yO.out.ext Ls) bH.lt;have oZ:Hid (IX (λb=>XL X l b\/b=gs) W6 sx (-1)):=(Qj.more (λg h=>h.imp id λe=>by omega)).ext aN;have Xt:=Lib.hid bH;have Dm:Hid (J ([⟨a1,m+1,m+1,X1,x.z⟩]++[⟨a2,n+1,n+1,X2,y.z⟩]) W6):=HJ.out _ _ _ Ib.out (Same.jC Ls YU);have fw:Hid (w4.heap.size<=W6.heap.size):=Ls.size;have CP:=Lib.hid (Wu (λb=>XL X l b\/b=gs) sx (-1) (m-n+1) 1 W6 X7.out oZ.out (by omega) (by decide) (by decide));obtain⟨x0,x1⟩:=kY bH;have dZ:=bH.lt;clear aN bH jy Qj aR Ls qbV Nu tL Ib yO yg
   go_upto_region 4 with(fail)
   rw[p9.out, <-vS.out];clear p9;go_wp2_with (fail);rw[show(((m-n:Nat):Int)+1)=((m-n+1:Nat):Int) by omega];refine CP.out.mono ?_;rintro e w7 ⟨wy,rfl,Ei,fE⟩;obtain⟨gd,iF⟩:∃gd,gd=w7.heap.size:=⟨_,rfl⟩;have aN:=(Ext.refl w7).alloc (.cells #[.bool wy.b,.slice wy.a wy.n wy.p] 30);have bH:=ak.bf w7 #[.bool wy.b,.slice wy.a wy.n wy.p] 30 2 rfl;rw[<-iF]at bH;obtain⟨W8,vD⟩:∃W8,w7.alloc (.cells #[.bool wy.b,.slice wy.a wy.n wy.p] 30)=W8:=⟨_,rfl⟩;rw[vD]at aN bH;have FB:=Lib.hid vD;have uO:=Lib.hid iF;have FW:=fE.trans aN
   have que:gs<gd:=by have:=Xt.out.lt;have:=fE.size;omega
   have U1:∀g,ZL X l gs gd g->(XL X l g\/g=gs)\/W6.heap.size<=g:=λg h=>h.imp id λe=>by have:=fE.size;omega
   have hm7:∀g,ZL X l gs gd g->(XL X l g\/g=gs)\/w7.heap.size<=g:=λg h=>h.imp id λe=>by omega
   have R8:Hid (Y7 Jd X (aP Jd x.n x.z) (aP Jd y.n y.z) m n l gs gd W.heap.size n (m-n) D ⟨a1,m+1,m+1,X1,x.z⟩ ⟨a2,n+1,n+1,X2,y.z⟩ (-1) ((-1)^(m-n+1)) W8):=by
    have z1:aM (m+1) x.z=aM x.n x.z:=by rw[<-tx];exact funext λi=>C8 _ _ i
    have z2:aM (n+1) y.z=aM y.n y.z:=by rw[<-ty];exact funext λi=>C8 _ _ i
    refine⟨?_,by show m+1=n+(m-n)+1;omega,rfl,bg.ext (bg.more Dc.out U1) FW,bg.ext (bg.more jV.out U1) FW,⟨sx,Xt.out.ext FW,(oZ.out.more U1).ext FW⟩,⟨wy,bH,(Ei.more hm7).ext aN⟩,by omega,O8,Nat.le_trans (Nat.mul_le_mul_left D (Nat.pow_le_pow_right (by decide) (by omega))) hD,λi hi=>dx i (Nat.lt_of_lt_of_le hi Vi),λi hi=>dy i (Nat.lt_of_lt_of_le hi Vk),Nat.le_trans (by decide) O8,mO (X7.out.ext FW) bH.lt,hlW,qup,que,λb hb=>HM.out b hb,by have:=fw.out;have:=FW.size;omega⟩;show yY Jd m n _ _ n (m-n) (aM (m+1) x.z) (aM (n+1) y.z) _ _;rw[z1,z2];exact qxR (by omega) (by omega) tx ty mJ gY
   have HJ8:Hid (J ([⟨a1,m+1,m+1,X1,x.z⟩]++[⟨a2,n+1,n+1,X2,y.z⟩]) W8):=HJ.out _ _ _ Dm.out (Same.jC FW (Nat.le_trans YU fw.out));clear aN bH vD Ei fE FW U1 hm7 iF CP oZ Xt Dc jV X7 Dm fw vS dZ x0 x1;clear HX Iu xu yR Bg NP xn Vi Vk zm dx dy HM HE;have RX:Hid (NN (aP Jd x.n x.z)/\NN (aP Jd y.n y.z)/\¬ae (aP Jd x.n x.z) []/\¬ae (aP Jd y.n y.z) []/\bD Jd (aP Jd x.n x.z) m/\bD Jd (aP Jd y.n y.z) n):=⟨pM _ _ _,pM _ _ _,CX (by omega) (by omega) (Ay tx).1,CX (by omega) (by omega) (Ay ty).1,BH (by omega) (by omega) tx,BH (by omega) (by omega) ty⟩;go_wp2_with (fail);rw[FB.out, <-uO.out];clear FB uO
   go_loopw [4,5,6] (λi4 i5 i6 wr=>ItR Jd J X (aP Jd x.n x.z) (aP Jd y.n y.z) m n l gs gd W.heap.size i4 i5 i6 wr) (λ_ i5 _ _=>lenOf i5)
   case atStart=>exact⟨n,m-n,D,_,⟨a2,n+1,n+1,X2,y.z⟩,_,_,[⟨a1,m+1,m+1,X1,x.z⟩],rfl,rfl,rfl,HJ8,Fj,R8⟩
   case round=>
    clear HJ8 Fj R8;obtain⟨e,d,D,p,q,s,dv,pre,rfl,rfl,rfl,Ia,HL0,HI⟩:=hrel;have hI:=HI.out;have U7:=hI.np;have hnq:=hI.nq;have jA:=hI.ed;have hpe:=hI.pr.pe
    have zm:D*15<=1000000000:=by
     have h1:=hI.hD;have h2:15^1<=15^e:=Nat.pow_le_pow_right (by decide) hpe;have h3:=Nat.mul_le_mul_left D h2;omega
    have qiE:=hI.D1
    have Kv:Hid (tz q.z q.n=e+1):=by
     have h1:=hI.pr.tB;unfold aM at h1;rw[if_pos (by omega)]at h1;show _=_;rw[hnq];exact M8 h1
    have YL:Hid (tz p.z p.n=e+d+1):=by
     have h1:=hI.pr.tA;unfold aM at h1;rw[if_pos (by omega)]at h1;show _=_;rw[U7];exact M8 h1
    have HNV:Hid (PsN p.n D D):=⟨by
     have h1:=Nat.mul_le_mul_right (D+1) (show p.n<=7 by omega);have h2:=Nat.mul_le_mul_right D (show p.n<=7 by omega)
     omega⟩
    have CP:=Lib.hid (qzM (ZL X l gs gd) p.a p.n p.p p.X p.z q.a q.n q.p q.X q.z D D wr hI.mb hI.okp hI.okq (by omega) (by omega) hI.dp hI.dq HNV.out);have Su:=Lib.hid U7;have Kj:=Lib.hid hnq;have jF:=Lib.hid jA;have A9:=Lib.hid hpe;have AR:=Lib.hid zm;have oh:=Lib.hid qiE;have HWL:=Lib.hid hlW;clear hI HNV U7 hnq jA hpe zm qiE hD O8 tx ty hX Gf hwl hlW;go_wp2_with (fail);refine CP.out.mono ?_;rintro e_ w9 ⟨au,nu,cu,av,nv,cv,er,rfl,⟨Xu,zu,Xv,zv,hu,hv,Me⟩,pF⟩
    obtain⟨h1,h2⟩:nv=tz zv nv/\∀i,aM nv zv i=aM e (zR e (d+1) (aM q.n q.z) (aM p.n p.z) (d+1)) i:=by
     rcases Me with⟨h0,_⟩|⟨n',V,k1,k2,k3,k4,_,k6⟩
     ·rw[Kv.out]at h0;cases h0
     ·obtain rfl:n'=e:=by rw[Kv.out]at k1;omega
      obtain rfl:V=d+1:=by rw[YL.out]at k2;omega
      exact⟨k4,k6⟩
    have Kn:=Lib.hid (qv5 (dv:=dv) h1 h2);have YO:=Lib.hid hv;have tT:=Lib.hid pF;have HTV:=Lib.hid h1;clear Me h1 h2 hu hv pF CP;have Mt:∀g,XL X l g->ZL X l gs gd g:=λg h=>.inl (.inl h);have YS:Hid (W.heap.size<=wr.heap.size):=HI.out.nw.2.2.2.2;have XV:Hid (J (pre++[q]) w9):=HJ.out _ _ _ Ia.out (Same.jC tT.out YS.out)
    by_cases mK:nv=0
    ·subst mK;have hz0:(((0:Nat):Int)==0)=true:=rfl
     have HF:Hid ((∃v,Ending.returned (.tuple #[])=.returned v)/\∃pre x',x'.ok (XL X l) w9/\Bn x'/\((IB Jd (aP Jd x.n x.z) (aP Jd y.n y.z) x'/\J (pre++[x']) w9)\/(KM Jd (aP Jd x.n x.z) (aP Jd y.n y.z) x'/\Jx (pre++[x']) w9))):=by
      obtain⟨f1,f2,f3,f4,f5,f6⟩:=RX.out;exact⟨⟨_,rfl⟩,pre,q,bg.ext (bg.more HI.out.okq λg h=>.inl (Mt g h)) tT.out,HL0.out,.inl ⟨⟨e,Kv.out,HI.out.pr.last (by omega) (by omega) f1 f2 gY f3 f4 f5 f6 (Kn.out.1 rfl)⟩,XV.out⟩⟩
     clear XV HTV YO tT Kn;go_wp2;refine bodyPost_ret (results_none rfl _ _ _) rfl ?_;exact HF.out
    ·have hz0:((nv:Int)==0)=false:=by rw[beq_eq_false_iff_ne];omega
     obtain⟨c,hc⟩:∃c,nv=c+1:=⟨nv-1,by omega⟩;have HC:=Lib.hid hc;have HK:=Lib.hid (Kn.out.2 c hc)
     have Ag:nv<=6:=by have:=HK.out.1;have:=jF.out;omega
     have rC:=Lib.hid Ag;clear hc Ag;obtain⟨sdx,qw,hid⟩:=HI.out.jd.ext tT.out;obtain⟨x0,x1⟩:=kY qw;have dZ:=qw.lt;have HM9:Hid (Mb (ZL X l gs gd) w9):=HI.out.mb.ext tT.out
     have yU:Hid (∀i,i<nv->az (zv i).natAbs<=D*15):=by
      have hv:=HK.out.2.2.2.2;intro i hi;rw[hv i hi];have b1:=WI (n:=e) (V:=d+1) (t:=d+1) (G:=aM q.n q.z) (R0:=aM p.n p.z) (yF HI.out.dq) (yF HI.out.dp) (Nat.le_refl _) i;have b2:=Nat.mul_le_mul_right (D+1) (show d+1<=6 by have:=jF.out;have:=A9.out;omega);have:=oh.out;omega
     have CO:=Lib.hid (qdB (ZL X l gs gd) av nv cv Xv zv sdx dv (D*15) w9 HM9.out YO.out hid HI.out.pr.OO (Nat.le_trans rC.out (by decide)) yU.out (by have:=AR.out;omega));clear qw hid;go_wp2_with (fail);refine CO.out.mono ?_;rintro e_ fU ⟨ar,Xr,rfl,hr,Ca⟩;rw[<-HTV.out]at hr⊢;have su:=Lib.hid (tT.out.trans Ca);have N7:Hid (eY.ok (ZL X l gs gd) fU ⟨ar,nv,nv,Xr,λi=>(zv i).tdiv dv⟩):=hr;have jw:=Lib.hid (HI.out.pr.Lc (by omega) (by omega) HK.out.1 HK.out.2.1 HK.out.2.2.1)
     have YM:Hid (tz (λi=>(zv i).tdiv dv) nv=nv):=by
      have h1:=jw.out.1;rw[<-HK.out.2.2.2.1]at h1;unfold aM at h1;rw[if_pos (by omega)]at h1;show _=_;rw[HC.out];exact M8 h1
     have yN:Hid (Bn ⟨ar,nv,nv,Xr,λi=>(zv i).tdiv dv⟩):=⟨Nat.le_trans rC.out (by decide),by show tz (λi=>(zv i).tdiv dv) nv≠0;rw[YM.out];exact mK,λi hi=>by
      show az ((zv i).tdiv dv).natAbs<=_;rw[Int.natAbs_tdiv]
      exact Nat.le_trans (ji (Nat.div_le_self _ _)) (Nat.le_trans (yU.out i hi) AR.out)⟩
     have XT:Hid (J (pre++[q]) fU):=HJ.out _ _ _ Ia.out (Same.jC su.out YS.out);have Te:Hid (W.heap.size<=fU.heap.size):=Nat.le_trans YS.out su.out.size;have YB:=Lib.hid (HI.out.jd.ext su.out);have YE:=Lib.hid (HI.out.js.ext su.out);have Ym:Hid (q.ok (ZL X l gs gd) fU):=bg.ext HI.out.okq su.out;have Kh:Hid (Mb (ZL X l gs gd) fU):=HI.out.mb.ext su.out;clear hr Ca CO XV YO tT Kn HM9 x0 x1 dZ yU su
     go_upto_region 8 with(fail)
     obtain⟨fn,tmps,assign,body,iy,pE⟩:=HY.out (pre++[q]) ⟨ar,nv,nv,Xr,λi=>(zv i).tdiv dv⟩ fU XT.out Te.out (bg.more N7.out λg h=>.inl (Mt g h)) yN.out;refine(wpIn_wide (n:=2)).1 (wpIn_region_lit ?_)
     gi_wp2_with (fail)
     clear iy;refine pE.mono ?_;rintro e_ vO (⟨rfl,hz,hJ,hk⟩|⟨rfl,hz,hJ,hk⟩)
     ·have iq:1<=c:=by
       have h1:¬tz (λi=>(zv i).tdiv dv) nv=1:=hz;rw[YM.out,HC.out]at h1;omega
      have Et:Kp (ZL X l gs gd) fU vO:=⟨hk.1,λb hb hn=>hk.2 b hb λh=>hn (Mt b h)⟩
      have hns:¬XL X l gs/\¬XL X l gd:=by
       obtain⟨q1,q2,q3,q4,_⟩:=HI.out.nw;exact⟨λh=>h.elim (λh=>by have:=q4 _ h;omega) λh=>by omega,λh=>h.elim (λh=>by have:=q4 _ h;omega) λh=>by omega⟩
      have qfv:Hid (eY.ok (ZL X l gs gd) vO ⟨ar,nv,nv,Xr,λi=>(zv i).tdiv dv⟩):=bg.kp N7.out Et;have Yn:Hid (q.ok (ZL X l gs gd) vO):=bg.kp Ym.out Et;have Sm:Hid (Mb (ZL X l gs gd) vO):=Kh.out.size hk.1;have qfB:=Lib.hid (YB.out.kp hk hns.2 Mt);have qfH:=Lib.hid (YE.out.kp hk hns.1 Mt);have qeV:=Lib.hid hJ;have YT:Hid (W.heap.size<=vO.heap.size):=Nat.le_trans Te.out hk.1;have vT:=Lib.hid iq;clear hz hJ hk Et hns iq pE N7 Ym Kh YB YE XT Te;have CL:=Lib.hid (Wv (ZL X l gs gd) q.a q.n q.p q.X q.z vO Sm.out Yn.out)
      gi_wp2_with (fail)
      go_wp2_with (fail);refine CL.out.mono ?_;rintro e_ w12 ⟨xl0,rfl,hl0,El⟩;have X6:=Lib.hid (Sm.out.ext El);have CN:=Lib.hid (qmG xl0 _ w12 X6.out hl0);clear hl0;go_wp2_with (fail);refine CN.out.mono ?_;rintro e_ Wz ⟨xl,rfl,hl,qbw⟩
      have gI:vJ q.z q.n=aM q.n q.z e:=by
       unfold vJ aM;rw[Kv.out,if_neg (by omega),if_pos (by have:=Kj.out;omega),Nat.add_sub_cancel]
      rw[gI]at hl;obtain⟨gl,dZ⟩:∃gl,gl=Wz.heap.size:=⟨_,rfl⟩;have aN:=(Ext.refl Wz).alloc (.cells #[.bool xl.b,.slice xl.a xl.n xl.p] 30);have bH:=ak.bf Wz #[.bool xl.b,.slice xl.a xl.n xl.p] 30 2 rfl;rw[<-dZ]at bH;obtain⟨nK,F9⟩:∃nK,Wz.alloc (.cells #[.bool xl.b,.slice xl.a xl.n xl.p] 30)=nK:=⟨_,rfl⟩;rw[F9]at aN bH;have Oi:=Lib.hid F9;have mi:=Lib.hid dZ;have FV:=El.trans (qbw.trans aN)
      have HZG:Hid (∀b,ZL X l gs gd b->b<gl):=λb hb=>by have:=(X6.out.ext qbw) b hb;omega
      have qfw:Hid (eY.ok (ZL X l gs gd) nK ⟨ar,nv,nv,Xr,λi=>(zv i).tdiv dv⟩):=bg.ext qfv.out FV;have qfo:Hid (q.ok (ZL X l gs gd) nK):=bg.ext Yn.out FV;have NR:Hid (Mb (ZL X l gs gd) nK):=Sm.out.ext FV;have qfC:=Lib.hid (qfB.out.ext FV);have Ob:=Lib.hid (qfH.out.ext FV);have qeW:Hid (J ((pre++[q])++[⟨ar,nv,nv,Xr,λi=>(zv i).tdiv dv⟩]) nK):=HJ.out _ _ _ qeV.out (Same.jC FV YT.out);have qf3:Hid (W.heap.size<=nK.heap.size):=Nat.le_trans YT.out FV.size;have YV:Hid (IX (ZL X l gs gd) nK xl (-(aM q.n q.z e))):=hl.ext aN;have Ny:=Lib.hid bH
      have qqk:Hid (gs<nK.heap.size):=by obtain⟨_,hb,_⟩:=Ob.out;exact hb.lt
      clear aN bH F9 dZ hl El qbw FV gI CL CN X6 Sm qfv Yn qfB qfH qeV YT;obtain⟨K4,LM⟩:∃K4,K4=nK:=⟨_,rfl⟩
      go_upto_if 58 with(fail)
      clear LM;rw[Oi.out, <-mi.out];clear Oi mi
      go_cut [7] (λs7 wx=>s7=.pointer (some ⟨gs,0,none⟩)/\Y6 (ZL X l gs gd) nK gs (rX d (aM q.n q.z e) s) wx)
      case first=>
       by_cases hd:0<d
       ·have hd0:(0:Int)<(d:Int):=by omega
        have hdw:IntKind.i64.wrap ((d:Int)-1)=((d-1:Nat):Int):=by rw[IntWalk.i64_in _ (by have:=jF.out;omega)];omega
        obtain⟨xs,BS,Qw⟩:=Ob.out;have cO:=(Ext.refl nK).drew;have hS:qH gl 0 xl gs xs nK.drew:=qH.ext ⟨kY Ny.out,kY BS,Ny.out.lt,BS.lt⟩ cO;have yV:=Lib.hid (Qw.ext cO);have YW:=Lib.hid (YV.out.ext cO);clear BS Qw
        go_upto_region 11 with(fail)
        refine Rw (qH gl 0 xl gs xs) 12 (by kernel_rfl) hS (λhHeld=>?_);clear hS;generalize nK.drew=wd at*;have C2:=Lib.hid (λ(W':World)(he:Ext wd W')=>Wu (ZL X l gs gd) xl (-(aM q.n q.z e)) d D W' (NR.out.ext (cO.trans he)) (YW.out.ext he) (by have:=jF.out;omega) (by rw[Int.natAbs_neg];exact yF HI.out.dq e) (by have:=AR.out;omega));have C6:=Lib.hid (λ(W':World)(he:Ext wd W')=>Wu (ZL X l gs gd) xs s (d-1) D W' (NR.out.ext (cO.trans he)) (yV.out.ext he) (by have:=jF.out;omega) HI.out.ds (by have:=AR.out;omega))
        ((refine pQ 0 (v:=?_) ?_ ?_;rotate_left 1;(intro wS hSw;obtain⟨⟨S1,S2⟩,⟨S3,S4⟩,S5,S6⟩:=hSw;go_simp;try with_reducible rfl);(try simp only[Act.put,aD,aF,aG]));(refine pQ 1 (v:=?_) ?_ ?_;rotate_left 1;(intro wS hSw;obtain⟨⟨S1,S2⟩,⟨S3,S4⟩,S5,S6⟩:=hSw;go_simp;try with_reducible rfl);(try simp only[Act.put,aD,aF,aG]));(refine pQ 3 (v:=?_) ?_ ?_;rotate_left 1;(intro wS hSw;obtain⟨⟨S1,S2⟩,⟨S3,S4⟩,S5,S6⟩:=hSw;go_simp;try with_reducible rfl);(try simp only[Act.put,aD,aF,aG]));(refine pQ 4 (v:=?_) ?_ ?_;rotate_left 1;(intro wS hSw;obtain⟨⟨S1,S2⟩,⟨S3,S4⟩,S5,S6⟩:=hSw;go_simp;try with_reducible rfl);(try simp only[Act.put,aD,aF,aG]));(refine pQ 5 (v:=?_) ?_ ?_;rotate_left 1;(intro wS hSw;obtain⟨⟨S1,S2⟩,⟨S3,S4⟩,S5,S6⟩:=hSw;go_simp;try with_reducible rfl);(try simp only[Act.put,aD,aF,aG])))
        ((refine uJ 2 ?_;intro K hK);go_simp;(refine(C2.out _ (Ext.refl _)).mono ?_);rintro e_ u1 ⟨y1,rfl,iy,bN⟩;go_wp2_with (fail);(try clear ag);(have ag:=hHeld.ext bN);(refine hK.out _ _ (λ_ _=>ag) ?_);clear hK K;(try simp only[Act.put,aD,aF,aG]))
        ((refine uJ 6 ?_;intro K hK);go_simp;(refine(C6.out _ bN).mono ?_);rintro e_ u2 ⟨y2,rfl,hq2,iG⟩;go_wp2_with (fail);(try clear ag);(have ag:=hHeld.ext (bN.trans iG));(refine hK.out _ _ (λ_ _=>ag) ?_);clear hK K;(try simp only[Act.put,aD,aF,aG]))
        have hq1:=iy.ext iG;clear iy;have Uy:=bN.trans iG
        have CQ:=Lib.hid (qnI y1 y2 _ _ u2 (NR.out.ext (cO.trans Uy)) hq1 hq2 (JA HI.out.pr.s0 _) (by
         have h1:=Lg (c:= -(aM q.n q.z e)) (D:=D) (by rw[Int.natAbs_neg];exact yF HI.out.dq e) d;have h2:=Nat.mul_le_mul_right D (show d<=6 by have:=jF.out;omega);have:=AR.out
         omega))
        clear hq1 hq2
        ((refine uJ 7 ?_;intro K hK);go_simp;(refine(CQ.out).mono ?_);rintro e_ u3 ⟨u,v,rfl,hu,pg⟩;go_wp2_with (fail);(try clear ag);(have ag:=hHeld.ext (Uy.trans pg));(refine hK.out _ _ (λ_ _=>ag) ?_);clear hK K;(try simp only[Act.put,aD,aF,aG]))
        ((refine EW 8 (v:=?_) ?_ ?_;rotate_left 1;(intro wS;go_simp;try with_reducible rfl);(try simp only[Act.put,aD,aF,aG]));(refine EW 9 (v:=?_) ?_ ?_;rotate_left 1;(intro wS;go_simp;try with_reducible rfl);(try simp only[Act.put,aD,aF,aG]));(refine EW 10 (v:=?_) ?_ ?_;rotate_left 1;(intro wS;go_simp;try with_reducible rfl);(try simp only[Act.put,aD,aF,aG]));(refine EW 11 (v:=?_) ?_ ?_;rotate_left 1;(intro wS;go_simp;try with_reducible rfl);(try simp only[Act.put,aD,aF,aG])))
        have zo:=cO.trans (Uy.trans pg);obtain⟨xs',LQ,_⟩:=Ob.out.ext zo;obtain⟨k0,k1⟩:=kY LQ;have fB:=LQ.frozen 0;have fo:=LQ.frozen 1;have kN:=LQ.lt
        have HF:Hid (Y6 (ZL X l gs gd) nK gs (rX d (aM q.n q.z e) s) (bK u3 gs 0 (.bool u.b) (.slice u.a u.n u.p))):=by
         refine⟨⟨u,OB LQ u,?_⟩,(Kp.jC zo).trans (Kp.bK (M:=λb=>b=gs) rfl 0 _ _),(Same.jC zo (Nat.le_of_lt qqk.out)).bK (Nat.le_refl _) 0 _ _⟩;rw[show rX d (aM q.n q.z e) s=((-(aM q.n q.z e))^d).tdiv (s^(d-1))from if_pos hd];exact hu.kp (Kp.bK (M:=ZL X l gs gd) (.inl (.inr rfl)) 0 _ _)
        unfold bK at HF;clear LQ hu pg zo Uy CQ ag hHeld cO bN iG
        ((refine uJ 12 ?_;intro K hK);go_simp;(refine hK.out _ _ (λh=>absurd rfl h) ?_);clear hK K;refine Rs ?_)
        go_wp2_with (fail)
        go_meet
        exact⟨rfl,HF.out⟩
       ·have hd0:¬(0:Int)<(d:Int):=by omega
        have HF:Hid (Y6 (ZL X l gs gd) nK gs (rX d (aM q.n q.z e) s) nK):=⟨by rw[show rX d (aM q.n q.z e) s=s from if_neg hd];exact Ob.out,Kp.refl _ _,Below.refl _ _⟩;go_wp2
        go_meet
        exact⟨rfl,HF.out⟩
      case rest=>
       obtain⟨rfl,hbx,Cc,Qj⟩:=hcut;have Cb:∀b,b=gs->ZL X l gs gd b:=λb hb=>.inl (.inr hb);have Et:Kp (ZL X l gs gd) nK wc:=⟨Cc.1,λb hb hn=>Cc.2 b hb λh=>hn (Cb b h)⟩;have hgW:W.heap.size<=gs/\gs<gd:=⟨HI.out.nw.2.1,HI.out.nw.2.2.1⟩;have HRc:Hid (eY.ok (ZL X l gs gd) wc ⟨ar,nv,nv,Xr,λi=>(zv i).tdiv dv⟩):=bg.kp qfw.out Et;have HQc:Hid (q.ok (ZL X l gs gd) wc):=bg.kp qfo.out Et;have Yc:Hid (Mb (ZL X l gs gd) wc):=NR.out.size Cc.1;have qqi:=Lib.hid (qfC.out.kp Cc (by omega) Cb);have qfJ:Hid (AJ (ZL X l gs gd) wc gs (rX d (aM q.n q.z e) s)):=hbx;have Gi:gs<gl:=HZG.out gs (.inl (.inr rfl));have qek:=Lib.hid (Ny.out.of_heap (Cc.2 gl Ny.out.lt (by omega)));have qqu:Hid (IX (ZL X l gs gd) wc xl (-(aM q.n q.z e))):=YV.out.kp Et;have HJc:Hid (J ((pre++[q])++[⟨ar,nv,nv,Xr,λi=>(zv i).tdiv dv⟩]) wc):=HJ.out _ _ _ qeW.out (Qj.mono hgW.1);have qf4:Hid (W.heap.size<=wc.heap.size):=Nat.le_trans qf3.out Cc.1;have R5:=Lib.hid hgW;have NJ:=Lib.hid (HI.out.pr.next (by omega) (by omega) RX.out.1 RX.out.2.1 HK.out.1 HK.out.2.1 HK.out.2.2.1 vT.out);have Bc:Hid (az (rX d (aM q.n q.z e) s).natAbs<=D*15):=qsd (yF HI.out.dq e) HI.out.ds (by have:=jF.out;omega) oh.out;have sF:Hid (rX d (aM q.n q.z e) s≠0):=NJ.out.s0;obtain⟨s',kC⟩:∃z,rX d (aM q.n q.z e) s=z:=⟨_,rfl⟩;rw[kC]at qfJ NJ Bc sF;clear kC hbx Cc Qj Cb Et hgW Gi qfw qfo NR qfC Ob Ny YV qeW qf3
       have hlq:IntKind.i64.wrap ((q.n:Int)-(nv:Int))=((e-c:Nat):Int):=by
        have h1:=Kj.out;have h2:=HC.out;have h3:=HK.out.1;have h4:=jF.out;rw[IntWalk.i64_in _ (by omega)];omega
       go_upto_region 14 with(fail)
       clear hlq;obtain⟨xs,BS,Qw⟩:=qfJ.out;have cO:=(Ext.refl wc).drew;have hS:qH gl 0 xl gs xs wc.drew:=qH.ext ⟨kY qek.out,kY BS,qek.out.lt,BS.lt⟩ cO;have yV:=Lib.hid (Qw.ext cO);have YW:=Lib.hid (qqu.out.ext cO);have HBS:=Lib.hid BS;clear BS Qw;refine Rw (qH gl 0 xl gs xs) 5 (by kernel_rfl) hS (λhHeld=>?_);clear hS;generalize wc.drew=wd at*;have C3:=Lib.hid (λ(W':World)(he:Ext wd W')=>Wu (ZL X l gs gd) xs s' (e-c) (D*15) W' (Yc.out.ext (cO.trans he)) (yV.out.ext he) (by have:=jF.out;omega) Bc.out (by have:=AR.out;omega))
       ((refine pQ 0 (v:=?_) ?_ ?_;rotate_left 1;(intro wS hSw;obtain⟨⟨S1,S2⟩,⟨S3,S4⟩,S5,S6⟩:=hSw;go_simp;try with_reducible rfl);(try simp only[Act.put,aD,aF,aG]));(refine pQ 1 (v:=?_) ?_ ?_;rotate_left 1;(intro wS hSw;obtain⟨⟨S1,S2⟩,⟨S3,S4⟩,S5,S6⟩:=hSw;go_simp;try with_reducible rfl);(try simp only[Act.put,aD,aF,aG]));(refine pQ 2 (v:=?_) ?_ ?_;rotate_left 1;(intro wS hSw;obtain⟨⟨S1,S2⟩,⟨S3,S4⟩,S5,S6⟩:=hSw;go_simp;try with_reducible rfl);(try simp only[Act.put,aD,aF,aG])))
       ((refine uJ 3 ?_;intro K hK);go_simp;(refine(C3.out _ (Ext.refl _)).mono ?_);rintro e_ u1 ⟨y1,rfl,iy,bN⟩;go_wp2_with (fail);(try clear ag);(have ag:=hHeld.ext bN);(refine hK.out _ _ (λ_ _=>ag) ?_);clear hK K;(try simp only[Act.put,aD,aF,aG]))
       have CM:=Lib.hid (MG xl y1 _ _ u1 (Yc.out.ext (cO.trans bN)) (YW.out.ext bN) iy (by
        have h1:=Lg Bc.out (e-c);have h2:=Nat.mul_le_mul_right (D*15) (show e-c<=6 by have:=jF.out;omega);have h3:=yF HI.out.dq e;rw[Int.natAbs_neg];have:=AR.out
        omega))
       clear iy
       ((refine uJ 4 ?_;intro K hK);go_simp;(refine(CM.out).mono ?_);rintro e_ u2 ⟨u,rfl,hu,iG⟩;go_wp2_with (fail);(try clear ag);(have ag:=hHeld.ext (bN.trans iG));(refine hK.out _ _ (λ_ _=>ag) ?_);clear hK K;(try simp only[Act.put,aD,aF,aG]))
       have jl:=cO.trans (bN.trans iG);obtain⟨xd,qw,_⟩:=qqi.out.ext jl;obtain⟨k0,k1⟩:=kY qw;have fB:=qw.frozen 0;have fo:=qw.frozen 1;have kN:=qw.lt;have aZ:=Kp.bK (M:=ZL X l gs gd) (w:=u2) (g:=gd) (.inr rfl) 0 (.bool u.b) (.slice u.a u.n u.p);have hsz:(bK u2 gd 0 (.bool u.b) (.slice u.a u.n u.p)).heap.size=u2.heap.size:=Aw _ _ _ _ _
       have HIF:Hid (Y7 Jd X (aP Jd x.n x.z) (aP Jd y.n y.z) m n l gs gd W.heap.size c (e-c) (D*15) q ⟨ar,nv,nv,Xr,λi=>(zv i).tdiv dv⟩ s' (-(aM q.n q.z e)*s'^(e-c)) (bK u2 gd 0 (.bool u.b) (.slice u.a u.n u.p))):=by
        have hce:=HK.out.1;refine⟨?_,by have:=Kj.out;omega,HC.out,bg.kp (bg.ext HQc.out jl) aZ,bg.kp (bg.ext HRc.out jl) aZ,⟨xs,(HBS.out.ext jl).of_heap (wK _ _ _ _ _ _ (by have:=R5.out;omega)),(yV.out.ext (bN.trans iG)).kp aZ⟩,⟨u,OB qw u,hu.kp aZ⟩,by have:=jF.out;omega,by have:=oh.out;omega,?_,λi hi=>Nat.le_trans (HI.out.dq i hi) (by omega),λi hi=>?_,Bc.out,(Yc.out.ext jl).size (by rw[hsz];exact Nat.le_refl _),HI.out.nw.1,R5.out.1,R5.out.2,HI.out.nw.2.2.2.1,by rw[hsz];exact Nat.le_trans qf4.out jl.size⟩
        ·show yY Jd m n _ _ c (e-c) (aM q.n q.z) (aM nv λi=>(zv i).tdiv dv) _ _;rw[HC.out,HK.out.2.2.2.1];exact NJ.out
        ·have h1:=HI.out.hD;have h2:15^(c+1)<=15^e:=Nat.pow_le_pow_right (by decide) hce;have h3:=Nat.mul_le_mul_left D h2;rw[Nat.pow_succ,Nat.mul_comm (15^c) 15, <-Nat.mul_assoc]at h3;omega
        ·show az ((zv i).tdiv dv).natAbs<=_;rw[Int.natAbs_tdiv];refine Nat.le_trans (ji (Nat.div_le_self _ _)) ?_;rw[HK.out.2.2.2.2 i hi];have b1:=WI (n:=e) (V:=d+1) (t:=d+1) (G:=aM q.n q.z) (R0:=aM p.n p.z) (yF HI.out.dq) (yF HI.out.dp) (Nat.le_refl _) i;have b2:=Nat.mul_le_mul_right (D+1) (show d+1<=6 by have:=jF.out;have:=A9.out;omega);have:=oh.out;omega
       have HJF:Hid (J ((pre++[q])++[⟨ar,nv,nv,Xr,λi=>(zv i).tdiv dv⟩]) (bK u2 gd 0 (.bool u.b) (.slice u.a u.n u.p))):=
        HJ.out _ _ _ HJc.out ((Same.jC jl qf4.out).bK (by have:=R5.out;omega) 0 _ _)
       unfold bK at HIF HJF;clear qw hu aZ hsz jl CM C3 hHeld ag cO bN iG HBS;have HLL:=yN
       ((refine uJ 5 ?_;intro K hK);go_simp;(refine hK.out _ _ (λh=>absurd rfl h) ?_);clear hK K;refine Rs ?_)
       go_wp2
       go_roundw
       case rel=>exact⟨c,e-c,D*15,q,⟨ar,nv,nv,Xr,λi=>(zv i).tdiv dv⟩,s',_,pre++[q],rfl,rfl,rfl,HJF,HLL,HIF⟩
       case measure=>
        show nv<q.n;have:=Kj.out;have:=HC.out;have:=HK.out.1;omega
     ·have HF:Hid ((∃v,Ending.returned (.tuple #[])=.returned v)/\∃pre x',x'.ok (XL X l) vO/\Bn x'/\((IB Jd (aP Jd x.n x.z) (aP Jd y.n y.z) x'/\J (pre++[x']) vO)\/(KM Jd (aP Jd x.n x.z) (aP Jd y.n y.z) x'/\Jx (pre++[x']) vO))):=by
       obtain⟨f1,f2,f3,f4,f5,f6⟩:=RX.out;have h1:tz (λi=>(zv i).tdiv dv) nv=1:=hz
       have mH:c=0:=by rw[YM.out,HC.out]at h1;omega
       exact⟨⟨_,rfl⟩,pre++[q],_,bg.kp (bg.more N7.out λg h=>.inl (Mt g h)) hk,yN.out,.inr ⟨⟨hz,HI.out.pr.const (by omega) (by omega) f1 f2 gY f3 f4 f5 f6 HK.out.1 HK.out.2.1 HK.out.2.2.1 mH⟩,hJ⟩⟩
      clear hz hJ hk pE N7 Ym Kh YB YE XT Te
      gi_wp2_with (fail)
      go_wp2;refine bodyPost_ret (results_none rfl _ _ _) rfl ?_;exact HF.out
  ·have HF:Hid ((∃v,Ending.returned (.tuple #[])=.returned v)/\∃pre x',x'.ok (XL X l) w4/\Bn x'/\((IB Jd (aP Jd x.n x.z) (aP Jd y.n y.z) x'/\J (pre++[x']) w4)\/(KM Jd (aP Jd x.n x.z) (aP Jd y.n y.z) x'/\Jx (pre++[x']) w4))):=
    ⟨⟨_,rfl⟩,[⟨a1,m+1,m+1,X1,x.z⟩],⟨a2,n+1,n+1,X2,y.z⟩,bg.kp og.out ll,Fj.out,.inr ⟨⟨EG,xn.out (by have h1:tz y.z (n+1)=1:=EG;have h2:=Bg.out;omega)⟩,Pk⟩⟩
   clear Pk EG ll pE XU Tf Nt og
   gi_wp2_with (fail)
   go_wp2;refine bodyPost_ret (results_none rfl _ _ _) rfl ?_;exact HF.out
 ·have HF:Hid ((∃v,Ending.returned (.tuple #[])=.returned v)/\∃pre x',x'.ok (XL X l) w3/\Bn x'/\((IB Jd (aP Jd x.n x.z) (aP Jd y.n y.z) x'/\J (pre++[x']) w3)\/(KM Jd (aP Jd x.n x.z) (aP Jd y.n y.z) x'/\Jx (pre++[x']) w3))):=
   ⟨⟨_,rfl⟩,[],⟨a1,m+1,m+1,X1,x.z⟩,bg.kp HA.out rP,NP.out,.inr ⟨⟨uD,xn.out (by have h1:tz x.z (m+1)=1:=uD;have h2:=yR.out;omega)⟩,Pj⟩⟩
  clear Pj uD rP pE Dl Td HA HB aU
  gi_wp2_with (fail)
  repeat(first|(refine⟨λ_ h=>(by cases h),?_⟩;gi_wp2_with (fail)))
  go_wp2;refine bodyPost_ret (results_none rfl _ _ _) rfl ?_;exact HF.out
end Go.Proofs.YtmcfpnmoklnhoaaGreat
