/- Ne -/
import Derived.Test.YtaafefeafonhdaaGreatMp
import Derived.Test.YtaafefeafonhdaaGreatNb
set_option linter.unusedVariables false
set_option maxRecDepth 100000
set_option maxHeartbeats 400000000
set_option linter.unusedSimpArgs false
namespace Go.Proofs.YtaafefeafonhdaaGreat
open Go.RowKit
section
variable{F:Fence}{n:Nat}{P:Program}{α:Type}
def qi2(F:Fence)(n:Nat)(P:Program)(g:Nat)(lb:Array Value)(enc:α->Array Value)(Live:α->World->Prop)(Kp:World->World->Prop)(S:List α->Prop)(w:World):Prop:=
 ∀(l:Nat)(J:List α->World->Prop)(W:World),Below w.heap.size w W->AbidesFrom W.heap.size J->
  (∀pre x W1,J pre W1->Live x W1->YieldAt F (n-1) P l (enc x) W1 λe W'=>e=.returned (.bool true)/\J (pre++[x]) W'/\Kp W1 W')->
  J [] W->CallsIn F n P g (#[.func (.yield l) #[] #[]]++lb) W λe W'=>(∃v,e=.returned v)/\∃xs,S xs/\J xs W'
def qz6(B:Nat)(Kp:World->World->Prop)(I:List α->World->Prop)(xs:List α)(W:World):Exit->Act->World->Prop
 | .normal,_,W'=>KeepsFrom B W W'/\Kp W W'/\I xs W'
 |_,_,_=>False
def qy(D:Nat)(r:Loop)(W:World):Prop:=W.heap[D+1]?=some (.loop r)/\W.heap[D]?=some (.deferred (some []))
theorem qy.lt{D:Nat}{r:Loop}{W:World}(h:qy D r W):D+1<W.heap.size:=(Array.getElem?_eq_some_iff.1 h.1).1
theorem qy.keeps{D:Nat}{r:Loop}{W W':World}(h:qy D r W)(k:KeepsFrom D W W'):qy D r W':=⟨k.same _ _ (by omega) h.1 rfl,k.same _ _ (aA _) h.2 rfl⟩
theorem qy.put{D:Nat}{r:Loop}{W:World}(h:qy D r W)(s:Loop):qy D s (W.putObj (D+1) (.loop s)):=⟨World.putObj_heap_same h.lt,(World.putObj_heap_other (by omega)).trans h.2⟩
theorem qy.step{D:Nat}{r:Loop}{W W':World}{row:Option Nat}(h:qy D r W)(hg:W.grownBy W' row)(hr:∀q,row=some q->∃o:Obj,W.heap[q]?=some o/\o.isWalk=true):qy D r W':=
 ⟨(grownBy_keeps hg hr h.1 rfl).trans h.1,(grownBy_keeps hg hr h.2 rfl).trans h.2⟩
theorem qEI{g:Operand}{ps:Array Tmp}{assign body:Code}{Q:Exit->Act->World->Prop}{a:Act}{w w0:World}
 (hro:F.round=none) (h1:1<=n) {gf:Nat} {lb:Array Value} (hg:a.eval g=.func (.func gf) #[] lb) (hFg:F.fn gf) (eg:∀args w,(callFunc gf args).run P w=.ok (.enter gf args) w)
 {enc:α->Array Value} {Live:α->World->Prop} {Kp:World->World->Prop} {S:List α->Prop} (qes:qi2 F (n-1) P gf lb enc Live Kp S w0) (iZ:Below w0.heap.size w0 w) (Sa:∀x,(enc x).size=ps.size)
 (hKt:∀{A B C:World},Kp A B->Kp B C->Kp A C) (hKp:∀(W:World)(l:Nat)(o:Obj),w.heap.size<=l->Kp W (W.putObj l o))
 (I:List α->World->Prop) (hI:OwnFrom w.heap.size I) (Ax:α->Act->World->Prop) (hAx:∀x a',OwnFrom w.heap.size (λ(_:Unit) W=>Ax x a' W))
 (qdq:∀(l:Nat)(pre:List α)(x:α)(W:World)(K:Act->World->Prop),I pre W->Live x W->(∀a' W',KeepsFrom w.heap.size W W'->Kp W W'->I pre W'->Ax x a' W'->K a' W')->
  assign.wpIn (F.inRound l) (n-1-1) P (Exit.then K (λ_ _ _=>False)) {tmps:=(ps.zip (enc x)).foldl (λt(p,v)=>t.setIfInBounds p v) a.tmps,defers:=[]} W)
 (qdx:∀(l:Nat)(pre:List α)(x:α)(a':Act)(W:World),I pre W->Ax x a' W->body.wpIn (F.inRound l) (n-1-1) P (qz6 w.heap.size Kp I (pre++[x]) W) a' W)
 (h0:I [] w)
 (qdK:∀(D:Nat)(xs:List α)(W:World),w.heap.size<=D->S xs->I xs W->W.heap[D]?=some (.deferred (some []))->Q .normal {a with defers:={target:=.collected D,args:= #[]}::a.defers} W):
 (Code.rangeFunc g ps assign body).wpIn F n P Q a w:=by
 refine wpIn_rangeFunc λfn KC=>?_
 let R:LoopState->Loop:=λst=>{state:=st,pending:=none,fn,tmps:=a.tmps,params:=ps,assign,body,defers:=w.heap.size}
 let W1:=(w.alloc (.deferred (some []))).alloc (.loop (R .ready))
 have dI:W1.heap.size=w.heap.size+2:=by show((w.alloc _).alloc _).heap.size=_;simp
 have hL:qy w.heap.size (R .ready) W1:=by
  have h2:=World.alloc_heap_new (w.alloc (.deferred (some []))) (.loop (R .ready));rw[World.size_alloc]at h2;exact⟨h2,(Below.heap_alloc _ _ _ (by simp)).trans (World.alloc_heap_new w _)⟩
 rw[hro];refine⟨w.heap.size+1,_,W1,{target:=.fn (.func gf) lb,args:= #[.func (.yield (w.heap.size+1)) #[] #[]]},W1,gf,#[.func (.yield (w.heap.size+1)) #[] #[]]++lb,W1,run_enterLoop_outer _ _ _ _ _,?_,?_,?_,λ_=>h1,?_⟩
 ·simp only[resolve,hg];simp[go_sem]
 ·intro f' hf';simp only[Target.leads,Option.some.injEq]at hf';subst hf';exact hFg
 ·simp[invoke,go_sem,eg]
 have qza:∀{A:World}{row:Option Nat},(∀r,row=some r->W1.heap.size<=r/\∃o:Obj,A.heap[r]?=some o/\o.isWalk=true)->∀r,row=some r->w.heap.size<=r/\∃o:Obj,A.heap[r]?=some o/\o.isCells=false:=λhr r e=>by
  obtain⟨hB,o,ho,hw⟩:=hr r e;exact⟨by omega,o,ho,Obj.not_cells_of_walk hw⟩
 refine(qes (w.heap.size+1) (λpre W=>I pre W/\qy w.heap.size (R .ready) W) W1 (iZ.trans ((((Below.refl _ w).alloc (aA _) _).alloc (by simp) _).mono iZ.size))
  (λs A B row hs lu hr=>⟨hI s A B row hs.1 lu (qza hr),hs.2.step lu λq e=>(hr q e).2⟩) ?_ ⟨hI.alloc _ (hI.alloc _ h0),hL⟩).mono ?_
 ·rintro pre x W ⟨hi,hl⟩ He;refine⟨fn,_,assign,body,run_yield (args:=enc x) hl.1 (Sa x),roundIn_of_wpIn KC (qdq _ pre x W _ hi He ?_)⟩;intro a' V hkV hpV RP hax;have KN:=hl.keeps hkV;refine⟨_,run_beginRound KN.1 rfl,?_⟩;have RX:=KN.put (R .busy);refine wpIn_mono (qdx _ pre x a' _ (hI.putObj _ RP (by omega) KN.1 rfl) ((hAx x a').putObj (s:=()) _ hax (by omega) KN.1 rfl)) ?_;intro e a3 W3 hp
  cases e with
  |normal=>
   obtain⟨qJ,hp3,KF⟩:=hp;have Hd:=RX.keeps qJ;exact⟨_,_,run_endRound none Hd.1,rfl,⟨hI.putObj _ KF (by omega) Hd.1 rfl,Hd.put (R .ready)⟩,hKt hpV (hKt (hKp _ _ _ (by omega)) (hKt hp3 (hKp _ _ _ (by omega))))⟩
  |ret=>exact hp.elim
  |exit id=>exact hp.elim
  |goto t=>exact hp.elim
  |panic ch=>exact hp.elim
  |outgrown=>exact hp.elim
 ·rintro e W2 ⟨⟨v,rfl⟩,xs,hS,hi,hl⟩;exact⟨none,_,run_endLoop hl.1 (by intro h;cases h),qdK _ xs _ (aA _) hS (hI.putObj _ hi (by omega) hl.1 rfl) ((World.putObj_heap_other (by omega)).trans hl.2)⟩
end
abbrev Yc:=TE × Int
abbrev ycA(x:Yc):Array Value:= #[.agg #[.int .i64 x.1.m.a,.int .i64 x.1.m.b,.int .i64 x.1.m.c,.int .i64 x.1.m.d],.agg #[.bool x.1.b,.slice x.1.a x.1.n x.1.p]]
def yl(pre:List Yc):List Tm:=pre.map λx=>(x.2,x.1.m)
def qi4(X:Nat->Prop)(L:List Tm)(x:Yc)(W:World):Prop:=dH X W (.bool x.1.b) (.slice x.1.a x.1.n x.1.p) x.2/\(x.2,x.1.m)∈L
theorem qD2(X:Nat->Prop)(w:World)(cb:Nat)(u:Value)(L:List Tm)(hM:Mb X w)(hc:w.cell? ⟨cb,0,none⟩=some u)(hX:¬X cb)(hP:eU X w u L):
 qi2 Fence.wide 2 Tryz.prog 119 #[.pointer (some ⟨cb,0,none⟩)] ycA (qi4 X L) (Kq X w.heap.size) (λxs=>yl xs=L) w:=by
 intro l J W hW hJ hY h0;have qE:=dM _ _ hc;have Dj:Ext w W:=hW;obtain⟨ua,uc,rfl⟩:=hP.form;have HY:=ae hY;have HJ:=ae hJ;have HP:=ae hP
 have hcW:W.cell? ⟨cb,0,none⟩=some (.slice ua L.length uc):=by rw[Dj.cell qE];exact hc
 have hll:=hP.len;have RU:Kp X w W:=Kp.gZ Dj;clear hY hJ hW hP hc;refine callsIn_wide.2 ?_;show Calls Tryz.prog 119 #[.func (.yield l) #[] #[],.pointer (some ⟨cb,0,none⟩)] W _
 go_enter Tryz.func119,Tryz.ntmps119
 go_wp2
 go_loopw [7] (λi wr=>∃(k:Nat)(pre:List Yc),k<=L.length/\i=.int .i64 k/\J pre wr/\Hid (yl pre=L.take k)/\Kp X w wr) (λi _=>L.length-(intOf i).toNat)
 case atStart=>exact⟨0,[],bu _,rfl,h0,(rfl:[]=[]),RU⟩
 case round=>
  clear h0 RU hcW Dj;obtain⟨k,pre,hk,rfl,GI,Mc,jA⟩:=hrel
  by_cases hlt:k<L.length
  ·have Ru:=HP.out.kp jA;obtain⟨b,off,c,m,b1,a1,n1,p1,hua,xL,hmx,hb,x0,x1,x2,x3,x4,x5,hI,hT,pQ⟩:=Ru.at (k:=k) hlt;subst hua;have HT:=ae hT;have qsS:=ae pQ;have aQ:Ext wr (wr.alloc (.cells #[.bool b1,.slice a1 n1 p1,.int .i64 m.a,.int .i64 m.b,.int .i64 m.c,.int .i64 m.d] 78)):=(ai wr).alloc _;have jf:=au.aO wr #[.bool b1,.slice a1 n1 p1,.int .i64 m.a,.int .i64 m.b,.int .i64 m.c,.int .i64 m.d] 78 6 rfl;have HI:=ae hI;clear Ru hT pQ hI
   go_upto_region 3 with(fail)
   generalize wr.alloc (.cells #[.bool b1,.slice a1 n1 p1,.int .i64 m.a,.int .i64 m.b,.int .i64 m.c,.int .i64 m.d] 78)=Wa at aQ jf⊢;clear x0 x1 x2 x3 x4 x5;have HS:Hid (Cj wr.heap.size (.bool b1) (.slice a1 n1 p1) m Wa.drew):=Cj.ext (w:=Wa) ⟨jf.cell (i:=0) (by omega),jf.cell (i:=1) (by omega),jf.cell (i:=2) (by omega),jf.cell (i:=3) (by omega),jf.cell (i:=4) (by omega),jf.cell (i:=5) (by omega)⟩ (ai Wa).drew;have dN:=aQ.trans (ai Wa).drew;have nW:=hM.size (aK jA.1 dN.size);refine qrO (Cj wr.heap.size (.bool b1) (.slice a1 n1 p1) m) 6 (by kernel_rfl) HS.out (λhHeld=>?_)
   ((refine Eb 0 (v:=?_) ?_ ?_;rotate_left 1;(intro wS hSw;obtain⟨S1,S2,S3,S4,S5,S6⟩:=hSw;go_simp;try with_reducible rfl);(try simp only[Act.put,eO,eQ,eT]));(refine Eb 1 (v:=?_) ?_ ?_;rotate_left 1;(intro wS hSw;obtain⟨S1,S2,S3,S4,S5,S6⟩:=hSw;go_simp;try with_reducible rfl);(try simp only[Act.put,eO,eQ,eT]));(refine Eb 2 (v:=?_) ?_ ?_;rotate_left 1;(intro wS hSw;obtain⟨S1,S2,S3,S4,S5,S6⟩:=hSw;go_simp;try with_reducible rfl);(try simp only[Act.put,eO,eQ,eT]));(refine Eb 3 (v:=?_) ?_ ?_;rotate_left 1;(intro wS hSw;obtain⟨S1,S2,S3,S4,S5,S6⟩:=hSw;go_simp;try with_reducible rfl);(try simp only[Act.put,eO,eQ,eT]));(refine Eb 4 (v:=?_) ?_ ?_;rotate_left 1;(intro wS hSw;obtain⟨S1,S2,S3,S4,S5,S6⟩:=hSw;go_simp;try with_reducible rfl);(try simp only[Act.put,eO,eQ,eT])))
   (refine TN 5 ?_;intro K hK)
   go_simp;refine(La _ _ c _ nW (HI.out.ext dN)).mono ?_;rintro e_ wz ⟨e0,e1,rfl,hr,ah⟩;go_wp2_with (fail);refine hK.out _ _ (λ_=>hHeld.ext ah) ?_;clear hK K;(try simp only[Act.put,eO,eQ,eT]);obtain⟨b2,a2,n2,p2,rfl,rfl⟩:=hr.form;have xI:=dN.trans ah;have Ny:J pre wz:=HJ.out pre wr wz none GI (xI.grownBy none) (λr e=>by cases e);obtain⟨fn,tmps,assign,body,hy,hR⟩:=HY.out pre (⟨b2,a2,n2,p2,m⟩,c) wz Ny ⟨hr,qsS.out⟩
   (refine qrL ?_;intro K hK)
   rw[av (by rfl)];refine⟨λ_ _=>trivial,?_⟩;rw[Fence.wide_round,Oper.semAt_none];go_simp;clear hy;refine hR.mono ?_;have Fb:Kp X w wz:=jA.trans (Kp.gZ xI)
   have ZW:Hid (yl (pre++[(⟨b2,a2,n2,p2,m⟩,c)])=L.take (k+1)):=by
    show _=_;rw[HT.out, <-Mc.out];simp[yl]
   rintro e_ wy ⟨rfl,hJy,KJ⟩;have hkF:Kp X w wy:=⟨aK Fb.1 KJ.1,λq hq hx=>(KJ.2 q hq hx).trans (Fb.2 q hq hx)⟩;clear hR Fb KJ Ny xI hr ah dN nW hHeld aQ jf GI jA;refine hK.out _ _ ?_;clear hK K;(try simp only[Act.put,eO,eQ,eT])
   (refine TN 7 ?_;intro K hK)
   go_simp;refine hK.out _ _ (λh=>by cases h) ?_;clear hK K;(try simp only[Act.put,eO,eQ,eT]);refine qf7 ?_;go_wp2
   go_roundw
   case rel=>exact⟨k+1,_,by omega,by go_num,hJy,ZW,hkF⟩
   case measure=>simp[intOf];omega
  ·have mH:k=L.length:=by omega
   subst mH
   have HF:Hid (yl pre=L):=by show _=_;rw[Mc.out,List.take_length]
   go_wp2
   go_end0
   exact⟨⟨_,rfl⟩,pre,HF.out,GI⟩
theorem qC2(b:Bool)(x:Nat):bO (!b) x= -bO b x:=by
 unfold bO;cases b<;>simp
theorem qzJ{M:Nat->Prop}(b:Bool)(a:Option Addr)(n p:Nat)(z:Int)(w:World)(hM:Mb M w)(h:dh M w (.bool b) (.slice a n p) z):
 Calls Tryz.prog 92 #[.agg #[.bool b,.slice a n p]] w λe w'=>∃(b2:Bool)(a2:Option Addr)(n2 p2:Nat),e=.returned (.agg #[.bool b2,.slice a2 n2 p2])/\dH M w' (.bool b2) (.slice a2 n2 p2) (-z)/\Ext w w':=by
 have aL:Ext w ((w.alloc (.cells #[.bool b,.slice a n p] 30)).alloc (.cells zI 30)):=((ai w).alloc _).alloc _;have bA:=au.aO (w.alloc (.cells #[.bool b,.slice a n p] 30)) zI 30 2 rfl;simp only[World.size_alloc]at bA;have bD:Mb (Mx M w.heap.size (w.heap.size+2)) ((w.alloc (.cells #[.bool b,.slice a n p] 30)).alloc (.cells zI 30)):=Mx.mb hM (by simp;omega) (by simp);obtain⟨nb,x,hb,hx,rfl⟩:=(h.more (M':=Mx M w.heap.size (w.heap.size+2)) (Mx.more (aA _))).ext aL;simp only[Value.bool.injEq]at hb;subst hb;have aJ:=ae (Ov (!b) _ x _ bD hx);rw[qC2]at aJ;have HB:=ae bA;have HE:=ae aL;clear aL bA bD h hM hx
 go_enter Tryz.func92,Tryz.ntmps92
 go_wp2_with (fail);refine aJ.out.mono ?_;rintro e w1 ⟨d0,d1,rfl,hc,ah⟩;obtain⟨kb,ka,kn,kp,rfl,rfl⟩:=hc.form;obtain⟨⟨q0,q1,f0,f1⟩,⟨r0,r1⟩,aT,bN⟩:=mD (M':=Mx M w.heap.size (w.heap.size+2)) (w:=w) (.bool kb) (.slice ka kn kp) (HB.out.ext ah) (Mx.at (by omega)) (by omega) (HE.out.trans ah)
 have HF:Hid (∃(b2:Bool)(a2:Option Addr)(n2 p2:Nat),Ending.returned (.agg #[.bool kb,.slice ka kn kp])=.returned (.agg #[.bool b2,.slice a2 n2 p2])/\dH M ((w1.setCell ⟨w.heap.size+1,0,none⟩ (.bool kb)).setCell ⟨w.heap.size+1,1,none⟩ (.slice ka kn kp)) (.bool b2) (.slice a2 n2 p2) (-bO b x)/\Ext w ((w1.setCell ⟨w.heap.size+1,0,none⟩ (.bool kb)).setCell ⟨w.heap.size+1,1,none⟩ (.slice ka kn kp))):=
  ⟨_,_,_,_,rfl,(hc.kp aT).more Mx.less,bN⟩
 simp only[arr]at q0 q1;clear aJ hc ah aT bN;go_wp2;exact aV (v:=.agg #[.bool kb,.slice ka kn kp]) (by simp[results,Tryz.results92,go_sem,r0,r1]) rfl HF.out
def YR(M:Nat->Prop)(w:World)(y z:Int)(e:Ending)(w':World):Prop:=∃(b:Bool)(a:Option Addr)(n p:Nat)(er:Int),e=.returned (.tuple #[.agg #[.bool b,.slice a n p],.int .i64 er])/\
 (y.tmod z=0->er=0/\dH M w' (.bool b) (.slice a n p) (y.tdiv z))/\(y.tmod z≠0->er=3/\dH M w' (.bool b) (.slice a n p) 0)/\Ext w w'
theorem qbN{M:Nat->Prop}(b:Bool)(a:Option Addr)(n p:Nat)(y:Int)(b':Bool)(a':Option Addr)(n' p':Nat)(z:Int)(w:World)(hM:Mb M w)(h:dh M w (.bool b) (.slice a n p) y)(h':dh M w (.bool b') (.slice a' n' p') z)(hz:z≠0)(hL:aF y.natAbs+1<=1099511627776):
 Calls Tryz.prog 33 #[.agg #[.bool b,.slice a n p],.agg #[.bool b',.slice a' n' p']] w (YR M w y z):=by
 have aW:=((au.aO w #[.bool b,.slice a n p] 30 2 rfl).alloc (.cells #[.bool b',.slice a' n' p'] 30)).alloc (.cells zI 30);have bA:=(au.aO (w.alloc (.cells #[.bool b,.slice a n p] 30)) #[.bool b',.slice a' n' p'] 30 2 rfl).alloc (.cells zI 30);have bJ:=au.aO ((w.alloc (.cells #[.bool b,.slice a n p] 30)).alloc (.cells #[.bool b',.slice a' n' p'] 30)) zI 30 2 rfl;have aL:Ext w (((w.alloc (.cells #[.bool b,.slice a n p] 30)).alloc (.cells #[.bool b',.slice a' n' p'] 30)).alloc (.cells zI 30)):=(((ai w).alloc _).alloc _).alloc _;simp only[World.size_alloc]at bA bJ;have bD:Mb (Mx M w.heap.size (w.heap.size+3)) (((w.alloc (.cells #[.bool b,.slice a n p] 30)).alloc (.cells #[.bool b',.slice a' n' p'] 30)).alloc (.cells zI 30)):=Mx.mb hM (by simp;omega) (by simp);have h0:=(h.more (M':=Mx M w.heap.size (w.heap.size+3)) (Mx.more (aA _))).ext aL;have oK:=(h'.more (M':=Mx M w.heap.size (w.heap.size+3)) (Mx.more (aA _))).ext aL;generalize fK:((w.alloc (.cells #[.bool b,.slice a n p] 30)).alloc (.cells #[.bool b',.slice a' n' p'] 30)).alloc (.cells zI 30)=W0 at*;have iY:=ae fK;have cK:=ae bJ;have dC:=ae aL;have iE:=ae bD;have c0:=aW.cell (i:=0) (by omega);have c1:=aW.cell (i:=1) (by omega);have c2:=bA.cell (i:=0) (by omega);have c3:=bA.cell (i:=1) (by omega);simp only[arr]at c0 c1 c2 c3;have g0:=aW.lt;have g1:=bA.lt;have aJ:=ae (qbO b a n p y b' a' n' p' z W0 bD h0 oK hz hL)
 clear h h' hM fK aW bA bJ aL bD h0 oK hz hL
 go_enter Tryz.func33,Tryz.ntmps33
 go_upto_region 1 with(fail)
 rw[iY.out];go_wp2_with (fail);refine aJ.out.mono ?_;rintro e w1 ⟨qb,qa,qn,qp,rb,ra,rn,rp,rfl,hq,hr,ah⟩;clear aJ c0 c1 c2 c3 g0 g1
 go_upto_region 2 with(fail)
 have Ak:=(au.aO w1 #[.bool qb,.slice qa qn qp] 30 2 rfl).alloc (.cells #[.bool rb,.slice ra rn rp] 30);have GH:=au.aO (w1.alloc (.cells #[.bool qb,.slice qa qn qp] 30)) #[.bool rb,.slice ra rn rp] 30 2 rfl;have eZ:Ext w1 ((w1.alloc (.cells #[.bool qb,.slice qa qn qp] 30)).alloc (.cells #[.bool rb,.slice ra rn rp] 30)):=((ai _).alloc _).alloc _;simp only[World.size_alloc]at GH;have hq2:=hq.ext eZ;have kV:=hr.ext eZ;have gU:=(cK.out.ext ah).ext eZ;have dF:=ah.trans eZ
 have xP:w.heap.size+3<=w1.heap.size:=by have:=(cK.out.ext ah).lt;omega
 generalize hG:w1.heap.size=G at*;generalize hW1:(w1.alloc (.cells #[.bool qb,.slice qa qn qp] 30)).alloc (.cells #[.bool rb,.slice ra rn rp] 30)=W1 at*;have c0:=Ak.cell (i:=0) (by omega);have c1:=Ak.cell (i:=1) (by omega);have c2:=GH.cell (i:=0) (by omega);have c3:=GH.cell (i:=1) (by omega);simp only[arr]at c0 c1 c2 c3;have g1:=Ak.lt;have g2:=GH.lt;have HQ:=ae hq2;have HB:=ae gU;have aP:=ae dF;have fP:=ae (qjX rb ra rn rp (y.tmod z) W1 kV.dB);have LY:=ae Ak;clear Ak GH eZ hq2 kV gU dF hG hW1 hq hr ah;go_wp2_with (fail);refine fP.out.mono ?_;rintro e w2 ⟨rfl,az⟩;clear fP c2 c3 g2
 by_cases hm:y.tmod z=0
 ·have hmd:decide (y.tmod z=0)=true:=by simp[hm]
  have ZJ:=ae hm;clear hm;obtain⟨⟨q0,q1,f0,f1⟩,⟨r0,r1⟩,aT,bN⟩:=mD (M':=Mx M w.heap.size (w.heap.size+3)) (w:=w) (.bool qb) (.slice qa qn qp) (HB.out.ext az) (Mx.at (by omega)) (by omega) ((dC.out.trans aP.out).trans az)
  have HF:Hid (YR M w y z (.returned (.tuple #[.agg #[.bool qb,.slice qa qn qp],.int .i64 0])) ((w2.setCell ⟨w.heap.size+1+1,0,none⟩ (.bool qb)).setCell ⟨w.heap.size+1+1,1,none⟩ (.slice qa qn qp))):=
   ⟨_,_,_,_,0,rfl,λ_=>⟨rfl,((HQ.out.ext az).kp aT).more Mx.less⟩,λh=>absurd ZJ.out h,bN⟩
  rw[<-az.cell g1]at c0 c1;have g1':=bB g1 az.size;simp only[arr]at q0 q1;clear aT bN g1 az;go_wp2;exact aV (v:=.tuple #[.agg #[.bool qb,.slice qa qn qp],.int .i64 0]) (by simp[results,Tryz.results33,go_sem,r0,r1]) rfl HF.out
 ·have hmd:decide (y.tmod z=0)=false:=by simp[hm]
  have ZJ:=ae hm;clear hm c0 c1 g1;obtain⟨⟨q0,q1,f0,f1⟩,⟨r0,r1⟩,aT,bN⟩:=mD (M':=Mx M w.heap.size (w.heap.size+3)) (w:=w) (.bool false) (.slice none 0 0) (HB.out.ext az) (Mx.at (by omega)) (by omega) ((dC.out.trans aP.out).trans az)
  have HF:Hid (YR M w y z (.returned (.tuple #[.agg #[.bool false,.slice none 0 0],.int .i64 3])) ((w2.setCell ⟨w.heap.size+1+1,0,none⟩ (.bool false)).setCell ⟨w.heap.size+1+1,1,none⟩ (.slice none 0 0))):=
   ⟨_,_,_,_,3,rfl,λh=>absurd h ZJ.out,λ_=>⟨rfl,dH.zero _ _⟩,bN⟩
  simp only[arr]at q0 q1;clear aT bN az;go_wp2;exact aV (v:=.tuple #[.agg #[.bool false,.slice none 0 0],.int .i64 3]) (by simp[results,Tryz.results33,go_sem,r0,r1]) rfl HF.out
theorem au.qqY{w:World}{g:Nat}{t:TypeId}{f:Nat->Value}(h:au w g t 2 f)(A B:Value):au ((w.setCell ⟨g,0,none⟩ A).setCell ⟨g,1,none⟩ B) g t 2 (arr #[A,B]):=
 ((h.set 0 A).set 1 B).congr λi hi=>by
  have:i=0\/i=1:=by omega
  rcases this with rfl|rfl<;>rfl
attribute [local go_sem] Oper.semAt_some
def lK(l:List Tm):Nat:=l.foldl (λg t=>Nat.gcd g t.1.natAbs) 0
theorem qwG(l:List Tm)(t:Tm):lK (l++[t])=Nat.gcd (lK l) t.1.natAbs:=by simp[lK]
theorem qwH(a b:Nat):Nat.gcd a b<=max a b:=by
 rcases Nat.eq_zero_or_pos a with h|h
 ·subst h;rw[Nat.gcd_zero_left];omega
 ·have:=Nat.gcd_le_left b h;omega
theorem cells_of_cell{w:World}{b o:Nat}{v:Value}(h:w.cell? ⟨b,o,none⟩=some v):∃q:Obj,w.heap[b]?=some q/\q.isCells=true:=by
 unfold World.cell? at h
 cases ho:w.heap[b]? with
 |none=>simp[ho]at h
 |some q=>exact⟨q,rfl,by cases q<;>simp_all [Obj.isCells]⟩
theorem dL.grown{M:Nat->Prop}{W W':World}{v:Value}{n:Nat}{d:Nat->Nat}{row:Option Nat}(h:dL M W v n d)(hg:W.grownBy W' row)(hr:∀r,row=some r->∃o:Obj,W.heap[r]?=some o/\o.isCells=false):dL M W' v n d:=by
 obtain⟨h1,h2,h3⟩:=h;refine⟨h1,h2,?_⟩;rcases Nat.eq_zero_or_pos n with h0|h0
 ·rcases h3 with h3|⟨b,off,cap,hv,hn,hc,hb,hcell⟩
  ·exact .inl h3
  ·exact .inr ⟨b,off,cap,hv,hn,hc,⟨bB hb.1 hg.size,hb.2⟩,λi hi=>by omega⟩
 ·rcases h3 with⟨h4,_⟩|⟨b,off,cap,hv,hn,hc,hb,hcell⟩
  ·omega
  ·have hne:some b≠row:=λe=>by
    obtain⟨o,ho,hno⟩:=hr b e.symm;obtain⟨q,hq,qop⟩:=cells_of_cell (hcell 0 h0);rw[ho]at hq;cases hq;rw[hno]at qop;cases qop
   exact .inr ⟨b,off,cap,hv,hn,hc,⟨bB hb.1 hg.size,hb.2⟩,λi hi=>by rw[World.cell?_of_block (w:=W) (hg.block b hb.1 hne)];exact hcell i hi⟩
theorem dH.grown{M:Nat->Prop}{W W':World}{c0 c1:Value}{z:Int}{row:Option Nat}(h:dH M W c0 c1 z)(hg:W.grownBy W' row)(hr:∀r,row=some r->∃o:Obj,W.heap[r]?=some o/\o.isCells=false):dH M W' c0 c1 z:=by
 obtain⟨⟨n,d,h1,h2,h3⟩,h4⟩:=h;exact⟨⟨n,d,h1.grown hg hr,h2,h3⟩,h4⟩
theorem au.qkq{W W':World}{g:Nat}{t:TypeId}{n:Nat}{f:Nat->Value}{row:Option Nat}(h:au W g t n f)(hg:W.grownBy W' row)(hr:∀r,row=some r->∃o:Obj,W.heap[r]?=some o/\o.isCells=false):au W' g t n f:=
 h.grown hg λe=>by
  obtain⟨o,ho,hno⟩:=hr g e.symm;obtain⟨cur,hc,_⟩:=h;rw[hc]at ho;cases ho;cases hno
section
variable{M M':Nat->Prop}{w w':World}{v:Value}{l:List Tm}
theorem xu.ext(h:xu M w v l)(he:Ext w w'):xu M w' v l:=by
 obtain⟨n,z,m,c0,c1,⟨dY,hrow⟩,h1,h2⟩:=h;refine⟨n,z,m,c0,c1,⟨dY,?_⟩,h1,λi hi=>(h2 i hi).ext he⟩;rcases hrow with hrow|⟨b,off,cap,hv,hn,hc,hb,hcell⟩
 ·exact .inl hrow
 ·refine .inr ⟨b,off,cap,hv,hn,hc,⟨bB hb.1 he.size,λh=>h⟩,λi hi=>?_⟩;rw[he.cell hb.1,he.cell hb.1,he.cell hb.1,he.cell hb.1,he.cell hb.1,he.cell hb.1];exact hcell i hi
theorem xu.more(h:xu M w v l)(hm:∀g,M' g->M g\/w.heap.size<=g):xu M' w v l:=by
 obtain⟨n,z,m,c0,c1,h0,h1,h2⟩:=h;exact⟨n,z,m,c0,c1,h0,h1,λi hi=>(h2 i hi).more hm⟩
theorem xu.form(h:xu M w v l):∃a cap,v=.slice a l.length cap:=by
 obtain⟨n,z,m,c0,c1,⟨dY,hrow⟩,rfl,hI⟩:=h;rw[show(dZ n z m).length=n by simp[dZ]];rcases hrow with⟨⟨_,_,rfl,_⟩,rfl⟩|⟨b,off,cap,rfl,_⟩
 ·exact⟨_,_,rfl⟩
 ·exact⟨_,_,rfl⟩
theorem mq.toW{B:Nat}(h:mq M B w v l):xu (MR M v) w v l:=by
 obtain⟨n,z,x,hO,hI,rfl,hn,_⟩:=h;refine⟨n,z,λi=>(x i).m,λi=>.bool (x i).b,λi=>.slice (x i).a (x i).n (x i).p,⟨hn,?_⟩,rfl,λi hi=>(hI i hi).dB⟩;rcases hO with⟨rfl,h0⟩|⟨g,cap,F,rfl,hb,hB,h1,h2,hF⟩
 ·exact .inl ⟨⟨none,0,rfl,bu _⟩,h0⟩
 ·refine .inr ⟨g,0,cap,rfl,h1,h2,⟨hB.lt,λh=>h⟩,λi hi=>?_⟩
  have key:∀q,q<6->w.cell? ⟨g,0+i*6+q,none⟩=some (tx x (i*6+q)):=λq hq=>by
   rw[Nat.zero_add,hB.cell (by omega),hF _ (by omega)]
  have e0:∀q,q<6->(i*6+q)/6=i/\(i*6+q)%6=q:=λq hq=>by omega
  refine⟨?_,?_,?_,?_,?_,?_⟩
  ·rw[show 0+i*6=0+i*6+0 by omega,key 0 (by omega)];unfold tx;rw[Nat.add_zero,FJ]
  ·rw[key 1 (by omega)];unfold tx;rw[FK]
  ·rw[key 2 (by omega)];unfold tx;rw[OZ]
  ·rw[key 3 (by omega)];unfold tx;rw[O0]
  ·rw[key 4 (by omega)];unfold tx;rw[O1]
  ·rw[key 5 (by omega)];unfold tx;rw[O3]
end
theorem qDA(M:Nat->Prop)(v:Value)(l:List Tm)(w:World)(hM:Mb M w)(hP:xu M w v l)(hL:aF (aB l)<=1099511627776):
 Calls Tryz.prog 93 #[v] w λe w'=>∃u cb,e=.returned (.func (.func 119) #[] #[.pointer (some ⟨cb,0,none⟩)])/\w'.cell? ⟨cb,0,none⟩=some u/\w.heap.size<=cb/\eU M w' u (norm l)/\Ext w w':=by
 obtain⟨va,vc,rfl⟩:=hP.form;have HP:=ae hP;clear hP
 go_enter Tryz.func93,Tryz.ntmps93
 go_wp2_with (fail);refine(qrf M _ l w hM HP.out hL).mono ?_;rintro e w1 ⟨u,rfl,hu,ah⟩;obtain⟨ua,uc,rfl⟩:=hu.dB.form;have hB:=au.OL w1 (.slice ua (norm l).length uc) 36
 have HF:Hid (∃u cb,Ending.returned (.func (.func 119) #[] #[.pointer (some ⟨w1.heap.size,0,none⟩)])=.returned (.func (.func 119) #[] #[.pointer (some ⟨cb,0,none⟩)])/\(w1.alloc (.cells #[.slice ua (norm l).length uc] 36)).cell? ⟨cb,0,none⟩=some u/\w.heap.size<=cb/\eU M (w1.alloc (.cells #[.slice ua (norm l).length uc] 36)) u (norm l)/\Ext w (w1.alloc (.cells #[.slice ua (norm l).length uc] 36))):=
  ⟨_,_,rfl,hB.cell (i:=0) (by omega),ah.size,hu.dB.ext ((ai w1).alloc _),ah.alloc _⟩
 clear hu hB ah;go_wp2;go_ret;exact HF.out
def LF(X:Nat->Prop)(w1 w2:World)(G:Nat)(L:List Tm)(pre:List Yc)(W:World):Prop:=
 ∃x:I4,au W G 30 2 (arr (iA x))/\dH X W (.bool x.b) (.slice x.a x.n x.p) (lK (yl pre):Nat)/\lK (yl pre)<=aB L/\Ext w1 W/\w2.heap.size<=W.heap.size
theorem LF.own{X:Nat->Prop}{w1 w2:World}{G:Nat}{L:List Tm}(h12:w1.heap.size<=w2.heap.size):OwnFrom w2.heap.size (LF X w1 w2 G L):=by
 rintro pre W W' row ⟨x,h1,h2,h3,h4,h5⟩ hg hr;have sG:=λr e=>(hr r e).2;exact⟨x,h1.qkq hg sG,h2.grown hg sG,h3,h4.grown hg (λk hk=>by have:=(hr k hk).1;omega),aK h5 hg.size⟩
theorem qDs(M:Nat->Prop)(v:Value)(l:List Tm)(w:World)(hM:Mb M w)(hP:xu M w v l)(hL:aF (aB l)+1<=1099511627776):
 Calls Tryz.prog 91 #[v] w λe w'=>∃(b:Bool)(a:Option Addr)(n p:Nat),e=.returned (.agg #[.bool b,.slice a n p])/\dH M w' (.bool b) (.slice a n p) (lK (norm l):Nat)/\Ext w w':=by
 obtain⟨va,vc,rfl⟩:=hP.form;have aL:Ext w (w.alloc (.cells zI 30)):=(ai w).alloc _;have aW:=au.aO w zI 30 2 rfl;have bD:Mb (Mx M w.heap.size (w.heap.size+1)) (w.alloc (.cells zI 30)):=Mx.mb hM (by simp) (by simp);have HP:=ae ((hP.more (M':=Mx M w.heap.size (w.heap.size+1)) (Mx.more (aA _))).ext aL);generalize fK:w.alloc (.cells zI 30)=W0 at*;have iY:=ae fK;have dO:=ae aW;have dC:=ae aL;have iE:=ae bD;have aJ:=ae (DD 0 W0 bD (by omega) (by omega));clear hP fK aW aL bD hM;refine callsIn_wide.1 (callsIn_of_wp_marks (F:=Fence.wide) (n:=3) Tryz.func91 rfl trivial ?_);refine wpIn_wide.2 ?_;simp only[Tryz.ntmps91,List.size_toArray,List.length_cons,List.length_nil,Nat.reduceAdd,Nat.reduceSub,Array.replicate_succ,Array.replicate_zero,List.push_toArray,List.append_toArray,List.nil_append,List.cons_append]
 go_upto_region 1 with(fail)
 rw[iY.out];go_wp2_with (fail);refine aJ.out.mono ?_;rintro e w1 ⟨d0,d1,rfl,hc,ah⟩;obtain⟨kb,ka,kn,kp,rfl,rfl⟩:=hc.form
 go_upto_region 2 with(fail)
 have aQ:Ext w1 (w1.alloc (.cells #[.bool kb,.slice ka kn kp] 30)):=(ai _).alloc _;have je:=au.aO w1 (iA ⟨kb,ka,kn,kp⟩) 30 2 rfl;have VV:W0.heap.size<=w1.heap.size:=ah.size;have dI:=(hc.more (M':=λg=>Mx M w.heap.size (w.heap.size+1) g\/g=w1.heap.size) (λg hg=>hg.imp id (λe=>by omega))).ext aQ;have pK:=((HP.out.more (M':=λg=>Mx M w.heap.size (w.heap.size+1) g\/g=w1.heap.size) (λg hg=>hg.imp id (λe=>by omega))).ext ah).ext aQ;have Ro:Mb (λg=>Mx M w.heap.size (w.heap.size+1) g\/g=w1.heap.size) (w1.alloc (.cells #[.bool kb,.slice ka kn kp] 30)):=λg hg=>hg.elim (λh1=>(iE.out.ext (ah.trans aQ)) g h1) (λh1=>by rw[h1];exact je.lt);have Wq:=dO.out.lt;obtain⟨G,hG⟩:∃G,G=w1.heap.size:=⟨_,rfl⟩;rw[<-hG]at je dI VV pK Ro;rw[<-hG];obtain⟨W2,gT⟩:∃W2,W2=w1.alloc (.cells #[.bool kb,.slice ka kn kp] 30):=⟨_,rfl⟩;rw[<-gT]at je dI aQ pK Ro;rw[<-gT];have fP:=ae (qDA _ _ l W2 Ro pK (by omega));have Y6:=ae je;have j5:=ae dI;have ek:=ae aQ;have aP:=ae ah;have jm:=ae Ro;have PM:=ae hG;clear hG gT aQ je dI pK Ro hc ah;go_wp2_with (fail);refine fP.out.mono ?_;rintro e w2 ⟨u,cb,rfl,qE,hcs,hu,az⟩;have HX:=ae (qD2 _ w2 cb u (norm l) (jm.out.ext az) qE (λh=>by have:=jm.out cb h;omega) hu);have h12:w1.heap.size<=w2.heap.size:=(ek.out.trans az).size
 have GH:G<w2.heap.size:=bB Y6.out.lt az.size;have jH:=Lr l;have Rl:LF (λg=>Mx M w.heap.size (w.heap.size+1) g\/g=G) w1 w2 G (norm l) [] w2:=⟨⟨kb,ka,kn,kp⟩,Y6.out.ext az,j5.out.ext az,bu _,ek.out.trans az,aA _⟩;have FV:=ae Rl;clear Rl fP qE hcs hu Y6 j5;go_wp2
 refine wpIn_wide.1 (qEI (F:=Fence.wide) (n:=3) rfl (by omega) (gf:=119) (lb:= #[.pointer (some ⟨cb,0,none⟩)]) rfl trivial (enters_of Tryz.func119 (by kernel_rfl) rfl) HX.out (Below.refl _ _) (λ_=>rfl) Kq.trans (λW l o hl=>Kq.putObj W l o hl)
  (LF (λg=>Mx M w.heap.size (w.heap.size+1) g\/g=G) w1 w2 G (norm l)) (LF.own h12)
  (λx a' W=>∃Bx,w2.heap.size<=Bx/\au W Bx 30 2 (arr (iA ⟨x.1.b,x.1.a,x.1.n,x.1.p⟩))/\qi4 (λg=>Mx M w.heap.size (w.heap.size+1) g\/g=G) (norm l) x W/\a'={tmps:= #[.slice va l.length vc,undef,.pointer (some ⟨w.heap.size,0,none⟩),.pointer (some ⟨G,0,none⟩),undef,.pointer (some ⟨Bx,0,none⟩),.agg #[.bool kb,.slice ka kn kp],.slice va l.length vc,.func (.func 119) #[] #[.pointer (some ⟨cb,0,none⟩)],.agg #[.int .i64 x.1.m.a,.int .i64 x.1.m.b,.int .i64 x.1.m.c,.int .i64 x.1.m.d],.agg #[.bool x.1.b,.slice x.1.a x.1.n x.1.p],undef,undef,undef,undef],defers:=[]})
  (λx a' s W W' row h hg hr=>?hax) ?assign ?body FV.out ?done)
 case hax=>
  obtain⟨Bx,h1,h2,h3,h4⟩:=h;have sG:=λr e=>(hr r e).2;exact⟨Bx,h1,h2.qkq hg sG,⟨h3.1.grown hg sG,h3.2⟩,h4⟩
 case assign=>
  rintro lq pre x W K ⟨x0,i1,i2,i3,i4,i5⟩ He hK
  gi_wp2
  have aQ:Ext W (W.alloc (.cells #[.bool x.1.b,.slice x.1.a x.1.n x.1.p] 30)):=(ai W).alloc _;exact hK _ _ ((KeepsOthers.alloc _ _).from _) (Kq.gZ aQ i5) ⟨x0,i1.ext aQ,i2.ext aQ,i3,i4.trans aQ,aK i5 aQ.size⟩ ⟨W.heap.size,i5,au.aO W (iA ⟨x.1.b,x.1.a,x.1.n,x.1.p⟩) 30 2 rfl,⟨He.1.ext aQ,He.2⟩,rfl⟩
 case body=>
  rintro lq pre x a' W ⟨x0,i1,i2,i3,i4,i5⟩ ⟨Bx,kg,qD,He,rfl⟩;have c0:=i1.cell (i:=0) (by omega);have c1:=i1.cell (i:=1) (by omega);have c2:=qD.cell (i:=0) (by omega);have c3:=qD.cell (i:=1) (by omega);simp only[arr]at c0 c1 c2 c3;have g0:=i1.lt;have g1:=qD.lt;have hxn:x.2.natAbs<=aB (norm l):=qfd He.2;have Kg:Mb (λg=>Mx M w.heap.size (w.heap.size+1) g\/g=G) W:=(jm.out.ext az).size i5;have aR:=qjW x0.b x0.a x0.n x0.p (lK (yl pre):Nat) x.1.b x.1.a x.1.n x.1.p x.2 W Kg i2.dB He.1.dB (by rw[Int.natAbs_natCast];have:=fu i3;have:=fu jH;omega) (by have:=fu hxn;have:=fu jH;omega);have aJ:=ae aR;clear aR
  gi_wp2_with (fail)
  refine⟨trivial,?_⟩;show CallsIn Fence.wide 0 Tryz.prog 109 _ W _;refine callsIn_wide.2 (aJ.out.mono ?_);rintro e w3 ⟨gb,ga,gn,gp,rfl,hg,aN⟩;rw[Int.natAbs_natCast]at hg;have vY:=i1.ext aN;obtain⟨⟨q0,q1,f0,f1⟩,⟨r0,r1⟩,aT,bN⟩:=mD (M':=λg=>Mx M w.heap.size (w.heap.size+1) g\/g=G) (w:=w1) (.bool gb) (.slice ga gn gp) vY (.inr rfl) (by rw[PM.out];exact aA _) (i4.trans aN)
  have uW:lK (yl (pre++[x]))=Nat.gcd (lK (yl pre)) x.2.natAbs:=by
   rw[show yl (pre++[x])=yl pre++[(x.2,x.1.m)] by simp[yl],qwG]
  have HN:Hid (LF (λg=>Mx M w.heap.size (w.heap.size+1) g\/g=G) w1 w2 G (norm l) (pre++[x]) ((w3.setCell ⟨G,0,none⟩ (.bool gb)).setCell ⟨G,1,none⟩ (.slice ga gn gp))):=
   ⟨⟨gb,ga,gn,gp⟩,vY.qqY _ _,by rw[uW];exact hg.kp aT,by rw[uW];exact aK (qwH _ _) (by omega),bN,aK i5 (aK aN.size aT.1)⟩
  have l6:Hid (KeepsFrom w2.heap.size W ((w3.setCell ⟨G,0,none⟩ (.bool gb)).setCell ⟨G,1,none⟩ (.slice ga gn gp))):=by
   refine⟨aK aN.size aT.1,λk o hk ho hno=>?_⟩
   have hkG:k≠G:=by omega
   rw[Below.heap_setCell _ ⟨G,1,none⟩ _ k hkG,Below.heap_setCell _ ⟨G,0,none⟩ _ k hkG,aN.heap (Array.getElem?_eq_some_iff.1 ho).1];exact ho
  have Ja:Hid (Kq (λg=>Mx M w.heap.size (w.heap.size+1) g\/g=G) w2.heap.size W ((w3.setCell ⟨G,0,none⟩ (.bool gb)).setCell ⟨G,1,none⟩ (.slice ga gn gp))):=
   ((Kq.gZ aN i5).set (.inr rfl) _).set (.inr rfl) _
  simp only[arr]at q0 q1;clear hg vY aT bN uW aN i1 i2 c0 c1 c2 c3 He qD aJ
  gi_wp2
  exact⟨l6.out,Ja.out,HN.out⟩
 case done=>
  rintro D ys W hD Xg ⟨x0,i1,i2,i3,i4,i5⟩ hK;have c0:=i1.cell (i:=0) (by omega);have c1:=i1.cell (i:=1) (by omega);simp only[arr]at c0 c1;have g0:=i1.lt;have qkX:=aP.out.trans i4;obtain⟨⟨q0,q1,f0,f1⟩,⟨r0,r1⟩,aT,bN⟩:=mD (M':=λg=>Mx M w.heap.size (w.heap.size+1) g\/g=G) (w:=w) (.bool x0.b) (.slice x0.a x0.n x0.p) (dO.out.ext qkX) (.inl (Mx.at (by omega))) (aA _) (dC.out.trans qkX);simp only[arr]at q0 q1;go_wp2
  have hne:D≠w.heap.size:=by omega
  have hK':((W.setCell ⟨w.heap.size,0,none⟩ (.bool x0.b)).setCell ⟨w.heap.size,1,none⟩ (.slice x0.a x0.n x0.p)).heap[D]?=some (.deferred (some [])):=by
   rw[Below.heap_setCell _ ⟨w.heap.size,1,none⟩ _ D hne,Below.heap_setCell _ ⟨w.heap.size,0,none⟩ _ D hne];exact hK
  have hFI:=(i2.kp aT);rw[Xg]at hFI;generalize V8:(W.setCell ⟨w.heap.size,0,none⟩ (.bool x0.b)).setCell ⟨w.heap.size,1,none⟩ (.slice x0.a x0.n x0.p)=WF at*;have lu:=grownBy_putObj' WF D (.deferred none)
  have s0:(WF.putObj D (.deferred none)).cell? ⟨w.heap.size,0,none⟩=some (.bool x0.b):=by rw[World.cell?_of_block (w:=WF) (World.putObj_heap_other (λe=>hne e.symm))];exact r0
  have s1:(WF.putObj D (.deferred none)).cell? ⟨w.heap.size,1,none⟩=some (.slice x0.a x0.n x0.p):=by rw[World.cell?_of_block (w:=WF) (World.putObj_heap_other (λe=>hne e.symm))];exact r1
  refine⟨by simp,.inl ⟨_,_,rfl,run_takeDeferred hK',?_⟩⟩;refine⟨.agg #[.bool x0.b,.slice x0.a x0.n x0.p],by simp[results,Tryz.results91,go_sem,s0,s1],?_⟩;exact⟨_,_,_,_,rfl,(hFI.grown lu (λr e=>by cases e;exact⟨_,hK',rfl⟩)).more (λg hg=>.inl (.inl (.inl hg))),bN.grown lu (λk hk=>by cases hk;have:=dC.out.size;omega)⟩
end Go.Proofs.YtaafefeafonhdaaGreat
namespace Go.Proofs.YtaafefeafonhdaaGreat
open Go.RowKit
section
variable{P:Program}{ops:Array Oper}{Q:Exit->Act->World->Prop}{md:Region.Mode}{S:World->Prop}{last:Nat}
def uq(P:Program)(md:Region.Mode)(ops:Array Oper)(Q:Exit->Act->World->Prop)(S:World->Prop)(last:Nat):Nat->Array Bool->Act->World->Prop
 |0,listed,a,w=>Region.ready md ops listed=[]/\Q .normal a w
 |fuel+1,listed,a,w=>
  (Region.ready md ops listed=[]->Q .normal a w)/\
  ∀i∈Region.ready md ops listed,wpOp P ops Q i (λa' w'=>(i≠last->listed.getD last true=false->S w')/\uq P md ops Q S last fuel (listed.setIfInBounds i true) a' w') a w
theorem qf8:∀(fuel:Nat)(listed:Array Bool)(a:Act)(w:World),uq P md ops Q S last fuel listed a w->wpAny P md ops Q fuel listed a w
 |0,_,_,_,h=>h
 |fuel+1,_,_,_,h=>⟨h.1,λi hi=>wpOp_mono (λa' w' h'=>qf8 fuel _ a' w' h'.2) (h.2 i hi)⟩
theorem qrK{i:Nat}{oi:Oper}{v:Value}{S':World->Prop}(hi:ops[i]?=some oi)(Bb:∀(j:Nat)(o:Oper) cs b,ops[j]?=some o->o.op≠ .select cs b)
 (hQ:∀c a w,Q (.panic c) (a.put oi.dst v) w->Q (.panic c) a w) (N7:i≠last) (hw:(∀w,S' w)\/((∀w,S w->S' w)/\waits md ops last i=true)):
 ∀(fuel:Nat)(listed:Array Bool)(a:Act)(w:World),
  (∀j oj,ops[j]?=some oj->j≠i->listed.getD j true=false->(∀e∈oj.after,Region.binds md e=true->e.on≠i)->oi.apart ops oj=true)->
  i∈Region.ready md ops listed->YieldsIf P ops S' oi v a->((∀w,S' w)\/listed.getD last true=false)->(listed.getD last true=false->S w)->
  uq P md ops Q S last fuel (listed.setIfInBounds i true) (a.put oi.dst v) w->uq P md ops Q S last (fuel+1) listed a w:=by
 intro fuel
 induction fuel with
 |zero=>
  intro listed a w _ hr hy hno hS H;have hS':S' w:=hw.elim (λh=>h w) (λh=>hno.elim (λk=>k w) (λk=>h.1 w (hS k)));refine⟨λh=>(by rw[h]at hr;cases hr),λj hj=>?_⟩
  by_cases iR:j=i
  ·subst iR;exact hy.wpOp hi hS' ⟨λ_ hl=>hS hl,H⟩
  ·have:=ready_mono hj iR;rw[H.1]at this;cases this
 |succ fuel ih=>
  intro listed a w AP hr hy hno hS H;have hS':S' w:=hw.elim (λh=>h w) (λh=>hno.elim (λk=>k w) (λk=>h.1 w (hS k)));refine⟨λh=>(by rw[h]at hr;cases hr),λj hj=>?_⟩
  by_cases iR:j=i
  ·subst iR;exact hy.wpOp hi hS' ⟨λ_ hl=>hS hl,H⟩
  ·have h1:=H.2 j (ready_mono hj iR);obtain⟨AV,oj,uX,kI⟩:=mem_ready.1 hj
   have KR:∀e∈oj.after,Region.binds md e=true->e.on≠i:=λe he hb heq=>by
    have h1:=kI e he hb;have h0:=(mem_ready.1 hr).1;rw[heq]at h1;rcases Nat.lt_or_ge i listed.size with h'|h'
    ·simp[h']at h0 h1;rw[h0]at h1;cases h1
    ·simp[Array.getElem?_eq_none h']at h1
   have h2:=wpOp_putIf uX (AP j oj uX iR AV KR) (λcs b=>Bb i oi cs b hi) (λcs b=>Bb j oj cs b uX) hQ hy h1
   have KD:∀k ok,ops[k]?=some ok->k≠i->(listed.setIfInBounds j true).getD k true=false->
    (∀e∈ok.after,Region.binds md e=true->e.on≠i)->oi.apart ops ok=true:=λk ok hk KH Bf hno=>by
    refine AP k ok hk KH ?_ hno
    by_cases lC:j=k
    ·subst lC;exact AV
    ·rw[getD_set_ne true lC]at Bf;exact Bf
   refine wpOp_mono (λa' w' h3=>⟨λtZ hl=>h3.2.1 tZ (by rw[getD_set_ne true N7];exact hl),ih (listed.setIfInBounds j true) a' w' KD (ready_mono hr (Ne.symm iR)) h3.1 ?_ ?_ ?_⟩) h2
   ·rcases hno with h|h
    ·exact .inl h
    ·rcases hw with k|⟨_,k⟩
     ·exact .inl k
     ·refine .inr ?_;have tZ:j≠last:=λe=>qpE k hr (e ▸ hj);rw[getD_set_ne true tZ];exact h
   ·intro hl
    by_cases tZ:j=last
    ·exfalso;subst tZ;rcases Nat.lt_or_ge j listed.size with h'|h'
     ·simp[h']at hl
     ·simp[Array.getElem?_eq_none h']at hl
    ·rw[getD_set_ne true tZ]at hl;exact h3.2.1 tZ (by rw[getD_set_ne true N7];exact hl)
   ·rw[Array.setIfInBounds_comm _ _ iR];exact h3.2.2
theorem Ea(i:Nat){oi:Oper}{v:Value}{fuel:Nat}{listed:Array Bool}{a:Act}{w:World}
 (hy:∀w,S w->(execOp a.eval oi).run P w=.ok (.value v) w) (h:uq P md ops Q S last fuel (listed.setIfInBounds i true) (a.put oi.dst v) w)
 (hs:Region.noSelect ops=true:=by kernel_rfl) (hf:Region.free md ops listed i=true:=by kernel_rfl) (hr:(Region.ready md ops listed).contains i=true:=by kernel_rfl) (hl:(waits md ops last i&& !(listed.getD last true)&&i !=last)=true:=by kernel_rfl) (hS:S w:=by first|exact ak|exact hHeld)
 (hi:ops[i]?=some oi:=by simp only[sO,sP,sQ];rfl) (hwd:Region.wanted oi (yielded ops a.tmps)=true:=by rfl) (hQ:∀c a w,Q (.panic c) (a.put oi.dst v) w->Q (.panic c) a w:=by exactλ_ _ _ h=>h):uq P md ops Q S last (fuel+1) listed a w:=by
 simp only[Bool.and_eq_true,bne_iff_ne,ne_eq,Bool.not_eq_true']at hl;exact qrK (S':=S) hi (Region.noSelect_spec hs) hQ hl.2 (.inr ⟨λ_ h=>h,hl.1.1⟩) fuel listed a w (Region.free_spec hi hf) (by simpa using hr) (.inl ⟨hwd,hy⟩) (.inr hl.1.2) (λ_=>hS) h
theorem LC(i:Nat){oi:Oper}{v:Value}{fuel:Nat}{listed:Array Bool}{a:Act}{w:World}
 (hy:∀w,(execOp a.eval oi).run P w=.ok (.value v) w) (h:uq P md ops Q S last fuel (listed.setIfInBounds i true) (a.put oi.dst v) w)
 (hs:Region.noSelect ops=true:=by kernel_rfl) (hf:Region.free md ops listed i=true:=by kernel_rfl) (hr:(Region.ready md ops listed).contains i=true:=by kernel_rfl) (hl:(i !=last)=true:=by kernel_rfl) (hS:S w:=by first|exact ak|exact hHeld)
 (hi:ops[i]?=some oi:=by simp only[sO,sP,sQ];rfl) (hwd:Region.wanted oi (yielded ops a.tmps)=true:=by rfl) (hQ:∀c a w,Q (.panic c) (a.put oi.dst v) w->Q (.panic c) a w:=by exactλ_ _ _ h=>h):uq P md ops Q S last (fuel+1) listed a w:=
 qrK (S':=λ_=>True) hi (Region.noSelect_spec hs) hQ (by simpa using hl) (.inl λ_=>trivial) fuel listed a w (Region.free_spec hi hf) (by simpa using hr) (.inl ⟨hwd,λw _=>hy w⟩) (.inl λ_=>trivial) (λ_=>hS) h
theorem O4(i:Nat){o:Oper}{fuel:Nat}{listed:Array Bool}{a:Act}{w:World}
 (h:∀K':Act->World->Prop,Shut (∀a w,(i≠last->listed.getD last true=false->S w)->uq P md ops Q S last fuel (listed.setIfInBounds i true) a w->K' a w)->if Region.wanted o (yielded ops a.tmps)=true then Oper.wp P o a w K' Q else K' (a.put o.dst undef) w) (hr:Region.ready md ops listed=[i]:=by kernel_rfl) (ho:ops[i]?=some o:=by simp only[sO,sP,sQ];rfl):uq P md ops Q S last (fuel+1) listed a w:=by
 refine⟨λh0=>(by rw[h0]at hr;cases hr),λj hj=>?_⟩;rw[hr]at hj;simp only[List.mem_singleton]at hj;subst hj;exact wpOp_step ho λK' hK=>h K' λa w h1 h2=>hK a w ⟨h1,h2⟩
theorem qf6{listed:Array Bool}{a:Act}{w:World}{fuel:Nat}(h:Q .normal a w)(hr:Region.ready md ops listed=[]:=by kernel_rfl):
 uq P md ops Q S last fuel listed a w:=by
 cases fuel with
 |zero=>exact⟨hr,h⟩
 |succ _=>exact⟨λ_=>h,by rw[hr];simp⟩
theorem qEN(S:World->Prop)(last:Nat){id:Nat}{a:Act}{w:World}(hm:P.follows .mixedOrders=true)(hS:S w.drew)
 (h:S w.drew->uq P .any ops Q S last ops.size (Array.replicate ops.size false) a w.drew):(Code.region id ops true).wp P Q a w:=
 wp_region_any hm (qf8 _ _ _ _ (h hS))
end
def oz:List Tm->Int
 |[]=>1
 |t::l=>if t.1<0 then-((lK (t::l):Nat):Int)else((lK (t::l):Nat):Int)
def dD(l:List Tm):List Tm:=(norm l).map λt=>(t.1.tdiv (oz (norm l)),t.2)
theorem qCZ{L:List Tm}{n:Nat}{f:Nat->Tm}(h:L=(List.range n).map f)(hn:n≠0):oz L=if(f 0).1<0 then-((lK L:Nat):Int)else((lK L:Nat):Int):=by
 obtain⟨k,rfl⟩:∃k,n=k+1:=⟨n-1,by omega⟩;rw[List.range_succ_eq_map,List.map_cons]at h;subst h;rfl
theorem qwD(l:List Tm):∀a:Nat,(l.foldl (λg t=>Nat.gcd g t.1.natAbs) a∣a)/\∀t∈l,l.foldl (λg t=>Nat.gcd g t.1.natAbs) a∣t.1.natAbs:=by
 induction l with
 |nil=>intro a;exact⟨Nat.dvd_refl _,λt ht=>by cases ht⟩
 |cons s l ih=>
  intro a;obtain⟨h1,h2⟩:=ih (Nat.gcd a s.1.natAbs);refine⟨Nat.dvd_trans h1 (Nat.gcd_dvd_left _ _),λt ht=>?_⟩;rcases List.mem_cons.1 ht with rfl|ht
  ·exact Nat.dvd_trans h1 (Nat.gcd_dvd_right _ _)
  ·exact h2 t ht
theorem qko{l:List Tm}{t:Tm}(h:t∈l):lK l∣t.1.natAbs:=(qwD l 0).2 t h
theorem qwE{l:List Tm}{t:Tm}(h:t∈l)(h0:t.1≠0):lK l≠0:=λe=>by
 have:=qko h;rw[e,Nat.zero_dvd]at this;omega
theorem qqZ{l:List Tm}(h:l≠[]):(oz l).natAbs=lK l:=by
 cases l with
 |nil=>exact absurd rfl h
 |cons t l=>
  by_cases h0:t.1<0
  ·rw[oz,av h0,Int.natAbs_neg,Int.natAbs_natCast]
  ·rw[oz,aj h0,Int.natAbs_natCast]
theorem qfO{l:List Tm}(h:Canon l):oz l≠0:=λe=>by
 cases l with
 |nil=>cases e
 |cons t l=>
  have h1:=qqZ (l:=t::l) (by simp);have h2:=qwE (List.mem_cons_self (a:=t) (l:=l)) (h.2 t (List.mem_cons_self ..)).1;rw[e]at h1;exact h2 h1.symm
theorem Yf{l:List Tm}{t:Tm}(h:t∈l):oz l∣t.1:=by
 rw[<-Int.natAbs_dvd_natAbs,qqZ (λe=>by rw[e]at h;cases h)];exact qko h
def Ae(MM:Nat->Prop)(base:Nat)(w:World)(v:Value)(n:Nat)(z z':Nat->Int)(m:Nat->Mo)(k:Nat):Prop:=
 ∃X:Nat->TE,Own w base 78 6 v n (tx X)/\(∀i,i<n->dH MM w (.bool (X i).b) (.slice (X i).a (X i).n (X i).p) (if i<k then z' i else z i)/\(X i).m=m i)
theorem Ae.step{MM:Nat->Prop}{base:Nat}{w:World}{g cap:Nat}{n:Nat}{z z':Nat->Int}{m:Nat->Mo}{k:Nat}{b2:Bool}{a2:Option Addr}{n2 p2:Nat}(h:Ae MM base w (.slice (some ⟨g,0,none⟩) n cap) n z z' m k)(hg:MM g)(hk:k<n)(hI:dH MM w (.bool b2) (.slice a2 n2 p2) (z' k)):
 Ae MM base ((w.setCell ⟨g,k*6,none⟩ (.bool b2)).setCell ⟨g,k*6+1,none⟩ (.slice a2 n2 p2)) (.slice (some ⟨g,0,none⟩) n cap) n z z' m (k+1)/\base<=g:=by
 obtain⟨X,hO,hX⟩:=h;obtain⟨g',cap',F,hv,oP,hB,jG,eu,hF⟩:=hO.some (by omega);simp only[Value.slice.injEq,Option.some.injEq,Addr.mk.injEq,and_true,true_and]at hv;obtain⟨rfl,rfl⟩:=hv
 have aT:Kp MM w ((w.setCell ⟨g,k*6,none⟩ (.bool b2)).setCell ⟨g,k*6+1,none⟩ (.slice a2 n2 p2)):=
  (Kp.set _ w (p:=⟨g,k*6,none⟩) hg _).trans (Kp.set _ _ (p:=⟨g,k*6+1,none⟩) hg _)
 refine⟨⟨λi=>if i=k then⟨b2,a2,n2,p2,m k⟩else X i,.inr ⟨g,cap,_,rfl,oP,(hB.set (k*6) _).set (k*6+1) _,jG,eu,λj hj=>?_⟩,λi hi=>?_⟩,oP⟩
 ·have h1:fG (fG F (k*6) (.bool b2)) (k*6+1) (.slice a2 n2 p2) j=fG (fG (tx X) (k*6) (.bool b2)) (k*6+1) (.slice a2 n2 p2) j:=by
   unfold fG;rw[hF j hj]
  rw[h1];unfold tx;rw[qrp];unfold lG rO
  by_cases hj6:j/6=k
  ·simp[hj6,(hX k hk).2]
  ·simp[hj6]
 ·by_cases fe:i=k
  ·subst fe;simp only[if_true,Nat.lt_succ_self];exact⟨hI.kp aT,trivial⟩
  ·simp only[aj fe];obtain⟨h1,h2⟩:=hX i hi;refine⟨?_,h2⟩;have h3:=h1.kp aT
   by_cases hlt:i<k
   ·rw[av hlt]at h3;rw[av (by omega)];exact h3
   ·rw[aj hlt]at h3;rw[aj (by omega)];exact h3
theorem Ae.kp{MM:Nat->Prop}{base:Nat}{w w':World}{g cap n:Nat}{z z':Nat->Int}{m:Nat->Mo}{k:Nat}(h:Ae MM base w (.slice (some ⟨g,0,none⟩) n cap) n z z' m k)(hk:Kp MM w w')(hg:w'.heap[g]?=w.heap[g]?):Ae MM base w' (.slice (some ⟨g,0,none⟩) n cap) n z z' m k:=by
 obtain⟨X,hO,hX⟩:=h;exact⟨X,hO.of_heap (λq hq=>by simp only[Value.ownBlock,Option.some.injEq]at hq;subst hq;exact hg),λi hi=>⟨(hX i hi).1.kp hk,(hX i hi).2⟩⟩
theorem Ae.ext{MM:Nat->Prop}{base:Nat}{w w':World}{g cap n:Nat}{z z':Nat->Int}{m:Nat->Mo}{k:Nat}(h:Ae MM base w (.slice (some ⟨g,0,none⟩) n cap) n z z' m k)(he:Ext w w'):Ae MM base w' (.slice (some ⟨g,0,none⟩) n cap) n z z' m k:=by
 obtain⟨X,hO,hX⟩:=h;exact⟨X,hO.ext he,λi hi=>⟨(hX i hi).1.ext he,(hX i hi).2⟩⟩
theorem qDw(M:Nat->Prop)(v:Value)(l:List Tm)(w:World)(hM:Mb M w)(hP:eU M w v l)(hL:aF (aB l)+1<=1099511627776):
 Calls Tryz.prog 54 #[v] w λe w'=>∃u,e=.returned u/\mq M w.heap.size w' u (dD l)/\Ext w w':=by
 obtain⟨va,vc,rfl⟩:=hP.form;have HP:=ae hP;clear hP
 go_enter Tryz.func54,Tryz.ntmps54
 go_wp2_with (fail);refine(Lx M _ l w hM HP.out (by omega)).mono ?_;rintro e w1 ⟨u,rfl,hu,ah⟩;obtain⟨n,z,x,hO,hI,hl,hn,hown⟩:=id hu;obtain⟨ua,uc,rfl⟩:=hO.form
 have hlen:(norm l).length=n:=by rw[hl];simp
 by_cases iN:n=0
 ·have WK:norm l=[]:=List.length_eq_zero_iff.1 (by omega)
  have HF:Hid (mq M w.heap.size w1 (.slice ua n uc) (dD l)):=by
   show mq _ _ _ _ _;unfold dD;rw[WK];rw[WK]at hu;exact hu
  subst iN;clear hu hO hI hl hown WK hlen;go_wp2;go_ret;exact⟨_,rfl,HF.out,ah⟩
 have yU:=o7 l
 have Rq:Mb (MR M (.slice ua n uc)) w1:=λq hq=>by
  rcases hq with hq|hq
  ·exact hM.ext ah q hq
  ·exact(hO.lt q hq).2
 have aJ:=ae (qDs (MR M (.slice ua n uc)) (.slice ua n uc) (norm l) w1 Rq hu.toW (by have:=fu (Lr l);omega));rw[qpB]at aJ
 have Hl:((n:Int)==0)=false:=by simp;omega
 have HO:=ae hO;have HI:=ae hI;have FW:=ae hl;have HOW:=ae hown;have aP:=ae ah;have Ma:=ae Rq;have BG:=ae yU;have HLN:=ae hlen;clear hu hO hI hl hown ah yU hlen Rq;go_wp2_with (fail);refine aJ.out.mono ?_;rintro e w2 ⟨cb,ca,cn,cp,rfl,hc,az⟩;clear aJ
 go_upto_region 5 with(fail)
 have aQ:Ext w2 (w2.alloc (.cells #[.bool cb,.slice ca cn cp] 30)):=(ai _).alloc _;have je:=au.aO w2 (iA ⟨cb,ca,cn,cp⟩) 30 2 rfl;obtain⟨g,cap,F,hv,oP,hB,jG,eu,hF⟩:=HO.out.some (by omega);simp only[Value.slice.injEq,true_and]at hv;obtain⟨rfl,rfl⟩:=hv;have rz:=bB hB.lt az.size;have Gx:=az.trans aQ;have kT:=(hc.more (M':=λq=>MR M (.slice (some ⟨g,0,none⟩) n uc) q\/q=w2.heap.size) (λq hq=>hq.imp id (λe=>by omega))).ext aQ;obtain⟨G,hG⟩:∃G,G=w2.heap.size:=⟨_,rfl⟩;rw[<-hG]at je rz;rw[<-hG];obtain⟨W3,oN⟩:∃W3,W3=w2.alloc (.cells #[.bool cb,.slice ca cn cp] 30):=⟨_,rfl⟩;rw[<-oN]at je Gx kT;rw[<-hG]at kT;rw[<-oN];have eG:=hB.ext Gx;have x0:=eG.cell (i:=0) (by omega);have x1:=eG.cell (i:=1) (by omega);rw[hF _ (by omega)]at x0 x1;unfold tx at x0 x1;have x0':=FJ (c0:=λi=>Value.bool (x i).b) (c1:=λi=>Value.slice (x i).a (x i).n (x i).p) (m:=λi=>(x i).m) (i:=0);have Yr:=FK (c0:=λi=>Value.bool (x i).b) (c1:=λi=>Value.slice (x i).a (x i).n (x i).p) (m:=λi=>(x i).m) (i:=0);rw[Nat.zero_mul]at x0' Yr;rw[Nat.zero_add]at Yr;rw[x0']at x0;rw[Yr]at x1;have xQ:=qCZ FW.out iN;simp only at xQ;have Rl:=(HI.out 0 (by omega)).ext Gx;have jr:Mb (λq=>MR M (.slice (some ⟨g,0,none⟩) n uc) q\/q=G) W3:=λq hq=>hq.elim (λh=>Ma.out.ext Gx q h) (λh=>by rw[h];exact je.lt)
 have iw:Ae (λq=>MR M (.slice (some ⟨g,0,none⟩) n uc) q\/q=G) w.heap.size W3 (.slice (some ⟨g,0,none⟩) n uc) n z (λi=>(z i).tdiv (oz (norm l))) (λi=>(x i).m) 0:=⟨x,HO.out.ext Gx,λi hi=>⟨((HI.out i hi).more (λq hq=>hq.imp id (λe=>by have:=az.size;omega))).ext Gx,rfl⟩⟩;have kR:=ae iw;have dK:=ae (aP.out.trans Gx);have mf:=ae jr;have zO:=ae kT;have Pn:=ae je;have uF:=ae xQ;have fP:=ae (Lb _ _ (z 0) W3 Rl.dB)
 have hgG:w.heap.size<=G:=by omega
 have qmN:g<W3.heap.size:=eG.lt;unfold maxLen at eu
 have qGx:0<n:=by omega
 clear Rl jr iw xQ kT je hB eG x0' Yr hF oN aQ hc az Gx hG;go_wp2_with (fail);refine fP.out.mono ?_;rintro e w4 ⟨rfl,bg⟩;clear fP x0 x1
 by_cases hz0:z 0<0
 case' pos=>
  have xQ:(z 0).sign= -1:=Int.sign_eq_neg_one_of_neg hz0;rw[xQ]
  have dU:Hid (oz (norm l)= -((lK (norm l):Nat):Int)):=by show _=_;rw[uF.out,av hz0]
  have oD:=ae (qzJ cb ca cn cp (lK (norm l):Nat) w4 (mf.out.ext bg) (zO.out.ext bg).dB);have oO:=Pn.out.ext bg;have c0:=oO.cell (i:=0) (by omega);have c1:=oO.cell (i:=1) (by omega);simp only[arr]at c0 c1;have gl:=oO.lt;clear xQ hz0 uF oO;go_wp2_with (fail);refine oD.out.mono ?_;rintro e w5 ⟨nb,na,nn,np,rfl,xP,aU⟩;clear oD c0 c1 gl;have hb5:=(Pn.out.ext bg).ext aU;obtain⟨⟨q0,q1,f0,f1⟩,_,aT,bN⟩:=mD (M':=λq=>MR M (.slice (some ⟨g,0,none⟩) n uc) q\/q=G) (w:=w) (.bool nb) (.slice na nn np) hb5 (.inr rfl) hgG ((dK.out.trans bg).trans aU);have sZ:=ae (hb5.qqY (.bool nb) (.slice na nn np));have qh:=ae (xP.kp aT);rw[<-dU.out]at qh;have cZ:=ae bN;have qam:=ae (((kR.out.ext bg).ext aU).kp aT (by rw[Below.heap_setCell _ ⟨G,1,none⟩ _ g (by show g≠G;omega),Below.heap_setCell _ ⟨G,0,none⟩ _ g (by show g≠G;omega)]));have qi:Hid (Mb (λq=>MR M (.slice (some ⟨g,0,none⟩) n uc) q\/q=G) ((w5.setCell ⟨G,0,none⟩ (.bool nb)).setCell ⟨G,1,none⟩ (.slice na nn np))):=((mf.out.ext bg).ext aU).size aT.1;simp only[arr]at q0 q1;clear hb5 aT bN xP bg aU dU zO Pn dK kR mf qmN
  go_upto_region 7 with(fail)
  generalize (w5.setCell ⟨G,0,none⟩ (.bool nb)).setCell ⟨G,1,none⟩ (.slice na nn np)=W5 at*;clear q0 q1 f0 f1
 case' neg=>
  have dU:Hid (oz (norm l)=((lK (norm l):Nat):Int)):=by show _=_;rw[uF.out,aj hz0]
  have sZ:=ae (Pn.out.ext bg);have qh:=ae (zO.out.ext bg);rw[<-dU.out]at qh;have cZ:=ae (dK.out.trans bg);have qam:=ae (kR.out.ext bg);have qi:=ae (mf.out.ext bg);clear bg dU zO Pn dK kR mf qmN uF
  go_upto_region 7 with(fail)
  clear hz0;generalize w4=W5 at*;generalize cb=nb at sZ qh;generalize ca=na at sZ qh;generalize cn=nn at sZ qh;generalize cp=np at sZ qh
 all_goals
  have qo:=ae (qfO BG.out);have c0:=sZ.out.cell (i:=0) (by omega);have c1:=sZ.out.cell (i:=1) (by omega);simp only[arr]at c0 c1;go_wp2
  go_loopw [24] (λi wr=>∃k:Nat,k<=n/\i=.int .i64 k/\Ae (λq=>MR M (.slice (some ⟨g,0,none⟩) n uc) q\/q=G) w.heap.size wr (.slice (some ⟨g,0,none⟩) n uc) n z (λi=>(z i).tdiv (oz (norm l))) (λi=>(x i).m) k/\wr.cell? ⟨G,0,none⟩=some (.bool nb)/\wr.cell? ⟨G,1,none⟩=some (.slice na nn np)/\Hid (dH (λq=>MR M (.slice (some ⟨g,0,none⟩) n uc) q\/q=G) wr (.bool nb) (.slice na nn np) (oz (norm l)))/\Ext w wr/\W5.heap.size<=wr.heap.size) (λi _=>n-(intOf i).toNat)
  case atStart=>exact⟨0,bu _,rfl,qam.out,by simpa using c0,by simpa using c1,qh,cZ.out,aA _⟩
  case round=>
   clear qam c0 c1 cZ qh;obtain⟨k,hk,rfl,iw,lY,fw,qh,bT,hsz⟩:=hrel
   by_cases hlt:k<n
   ·have qy3:=iw;obtain⟨X,hO,hX⟩:=qy3;obtain⟨g',cap',F',hv,qFG,hB,qyD,qmg,Rk⟩:=hO.some (by omega);simp only[Value.slice.injEq,Option.some.injEq,Addr.mk.injEq,and_true,true_and]at hv;obtain⟨rfl,rfl⟩:=hv;have uR:=(hX k hlt).1;rw[aj (by omega)]at uR;have oZ:=hB.cell (i:=k*6) (by omega);have fo:=hB.cell (i:=k*6+1) (by omega);rw[Rk _ (by omega)]at oZ fo;unfold tx at oZ fo;rw[FJ]at oZ;rw[FK]at fo;have HS:Hid (JP G g k (.bool nb) (.slice na nn np) (.bool (X k).b) (.slice (X k).a (X k).n (X k).p) wr.drew):=JP.ext ⟨lY,fw,oZ,fo⟩ (ai _).drew;have qx7:=hB.lt;have HIK:=ae (uR.ext (ai wr).drew);have kR:=ae (iw.ext (ai wr).drew);have FP:=ae (hB.ext (ai wr).drew);have Zf:=ae (qh.out.ext (ai wr).drew);have Eg:=ae (bT.trans (ai wr).drew);have En:Hid (Mb (λq=>MR M (.slice (some ⟨g,0,none⟩) n uc) q\/q=G) wr.drew):=qi.out.size hsz
    have pQ:(z k,(x k).m)∈norm l:=by rw[FW.out];exact List.mem_map.2 ⟨k,List.mem_range.2 hlt,rfl⟩
    have hzL:aF (z k).natAbs+1<=1099511627776:=by
     have h1:=fu (aK (qfd pQ) (Lr l));simp only at h1;omega
    have xM:=Yf pQ;have jQ:Hid ((z k).tmod (oz (norm l))=0):=Int.tmod_eq_zero_of_dvd xM;have CTE:=λW hm h1 h2=>ae (qbN (M:=λq=>MR M (.slice (some ⟨g,0,none⟩) n uc) q\/q=G) (X k).b (X k).a (X k).n (X k).p (z k) nb na nn np (oz (norm l)) W hm h1 h2 qo.out hzL);have K5:W5.heap.size<=wr.drew.heap.size:=hsz;clear hX Rk hO uR iw lY fw oZ fo hB bT pQ xM hzL qh hsz
    go_upto_region 10 with(fail)
    refine qEN (JP G g k (.bool nb) (.slice na nn np) (.bool (X k).b) (.slice (X k).a (X k).n (X k).p)) 14 (by kernel_rfl) HS.out (λhHeld=>?_);generalize wr.drew=wd at*
    ((refine Ea 0 (v:=?_) ?_ ?_;rotate_left 1;(intro wS hSw;obtain⟨S1,S2,S3,S4⟩:=hSw;go_simp;try with_reducible rfl);(try simp only[Act.put,eO,eQ,eT]));(refine Ea 1 (v:=?_) ?_ ?_;rotate_left 1;(intro wS hSw;obtain⟨S1,S2,S3,S4⟩:=hSw;go_simp;try with_reducible rfl);(try simp only[Act.put,eO,eQ,eT]));(refine Ea 2 (v:=?_) ?_ ?_;rotate_left 1;(intro wS hSw;obtain⟨S1,S2,S3,S4⟩:=hSw;go_simp;try with_reducible rfl);(try simp only[Act.put,eO,eQ,eT]));(refine Ea 3 (v:=?_) ?_ ?_;rotate_left 1;(intro wS hSw;obtain⟨S1,S2,S3,S4⟩:=hSw;go_simp;try with_reducible rfl);(try simp only[Act.put,eO,eQ,eT]));(refine Ea 4 (v:=?_) ?_ ?_;rotate_left 1;(intro wS hSw;obtain⟨S1,S2,S3,S4⟩:=hSw;go_simp;try with_reducible rfl);(try simp only[Act.put,eO,eQ,eT]));(refine Ea 5 (v:=?_) ?_ ?_;rotate_left 1;(intro wS hSw;obtain⟨S1,S2,S3,S4⟩:=hSw;go_simp;try with_reducible rfl);(try simp only[Act.put,eO,eQ,eT]));(refine Ea 6 (v:=?_) ?_ ?_;rotate_left 1;(intro wS hSw;obtain⟨S1,S2,S3,S4⟩:=hSw;go_simp;try with_reducible rfl);(try simp only[Act.put,eO,eQ,eT]));(refine Ea 7 (v:=?_) ?_ ?_;rotate_left 1;(intro wS hSw;obtain⟨S1,S2,S3,S4⟩:=hSw;go_simp;try with_reducible rfl);(try simp only[Act.put,eO,eQ,eT])))
    ((refine O4 8 λK hK=>?_);go_simp;(refine((CTE _ En.out HIK.out.dB Zf.out.dB).out).mono ?_);rintro e_ wz ⟨eb,ea,en,ep,er,rfl,yZ,KV,ah⟩;go_wp2_with (fail);(try clear ak);(have ak:=hHeld.ext ah);(refine hK.out _ _ (λ_ _=>ak) ?_);clear hK K;(try simp only[Act.put,eO,eQ,eT]))
    clear KV;obtain⟨rfl,hr⟩:=yZ jQ.out;have uP:=FP.out.ext ah;have jw:=uP.frozen (k*6);have ku:=uP.frozen (k*6+1);obtain⟨hs2,Wh⟩:=(kR.out.ext ah).step (.inl (.inr rfl)) hlt hr
    have hne:G≠g:=by omega
    have N9:Kp (λq=>MR M (.slice (some ⟨g,0,none⟩) n uc) q\/q=G) wz ((wz.setCell ⟨g,k*6,none⟩ (.bool eb)).setCell ⟨g,k*6+1,none⟩ (.slice ea en ep)):=
     (Kp.set _ wz (p:=⟨g,k*6,none⟩) (.inl (.inr rfl)) _).trans (Kp.set _ _ (p:=⟨g,k*6+1,none⟩) (.inl (.inr rfl)) _)
    have HCF:=ae ((Zf.out.ext ah).kp N9);have pG:=ae hs2;have heF:Hid (Ext w ((wz.setCell ⟨g,k*6,none⟩ (.bool eb)).setCell ⟨g,k*6+1,none⟩ (.slice ea en ep))):=((Eg.out.trans ah).set (p:=⟨g,k*6,none⟩) oP _).set (p:=⟨g,k*6+1,none⟩) oP _;have qy5:Hid (W5.heap.size<=((wz.setCell ⟨g,k*6,none⟩ (.bool eb)).setCell ⟨g,k*6+1,none⟩ (.slice ea en ep)).heap.size):=aK K5 (aK ah.size N9.1);have HT:=ae ak
    ((refine LC 9 (v:=?_) ?_ ?_;rotate_left 1;(intro wS;go_simp;try with_reducible rfl);(try simp only[Act.put,eO,eQ,eT]));(refine LC 10 (v:=?_) ?_ ?_;rotate_left 1;(intro wS;go_simp;try with_reducible rfl);(try simp only[Act.put,eO,eQ,eT]));(refine LC 11 (v:=?_) ?_ ?_;rotate_left 1;(intro wS;go_simp;try with_reducible rfl);(try simp only[Act.put,eO,eQ,eT]));(refine LC 12 (v:=?_) ?_ ?_;rotate_left 1;(intro wS;go_simp;try with_reducible rfl);(try simp only[Act.put,eO,eQ,eT]));(refine LC 13 (v:=?_) ?_ ?_;rotate_left 1;(intro wS;go_simp;try with_reducible rfl);(try simp only[Act.put,eO,eQ,eT])))
    obtain⟨T1,T2,T3,T4⟩:=HT.out;clear hs2 N9 K5 Zf Eg kR HIK HS hHeld yZ jQ CTE
    ((refine O4 14 λK hK=>?_);go_simp;(refine hK.out _ _ (λh=>absurd rfl h) ?_);clear hK K;refine qf6 ?_)
    have qK:=ks hne (ks hne T1 (u:=.bool eb) (k:=k*6)) (u:=.slice ea en ep) (k:=k*6+1);have hq1:=ks hne (ks hne T2 (u:=.bool eb) (k:=k*6)) (u:=.slice ea en ep) (k:=k*6+1);clear uP T1 T2 T3 T4 jw ku hr ah HT;go_wp2
    go_roundw
    case rel=>exact⟨k+1,by omega,by go_num,pG.out,qK,hq1,HCF,heF.out,qy5.out⟩
    case measure=>simp[intOf];omega
   ·have hkn:k=n:=by omega
    subst hkn
    have HF:Hid (mq M w.heap.size wr (.slice (some ⟨g,0,none⟩) k uc) (dD l)):=by
     obtain⟨X,hO,hX⟩:=iw;refine⟨k,λi=>(z i).tdiv (oz (norm l)),X,hO,λi hi=>by have h1:=(hX i hi).1;rw[av hi]at h1;exact h1.more (λq hq=>.inl (.inl hq)),?_,hn,HOW.out⟩;unfold dD;generalize hs:oz (norm l)=sg;rw[FW.out,List.map_map];apply List.map_congr_left;intro i hi
     have hi':i<k:=by simpa using hi
     show((z i).tdiv sg,(x i).m)=((z i).tdiv sg,(X i).m);rw[(hX i hi').2]
    clear iw lY fw qh;go_wp2;go_ret;exact⟨_,rfl,HF.out,bT⟩
theorem qrb(l:List Tm):Canon (dD l):=by
 have hc:=o7 l;unfold dD;refine⟨?_,λt ht=>?_⟩
 ·rw[List.pairwise_map];exact hc.1
 ·obtain⟨s,hs,rfl⟩:=List.mem_map.1 ht;refine⟨λe=>?_,(hc.2 s hs).2⟩;have h1:=Int.tdiv_mul_cancel (Yf hs);simp only at e;rw[e,Int.zero_mul]at h1;exact(hc.2 s hs).1 h1.symm
theorem qpD(l:List Tm):norm (dD l)=dD l:=qpC (qrb l)
theorem qDk(l:List Tm):dD (norm l)=dD l:=by unfold dD;rw[qpB]
theorem af.dD{l r:List Tm}(h:af l r):dD l=dD r:=by unfold Go.Proofs.YtaafefeafonhdaaGreat.dD;rw[h.norm]
theorem qA0(s:Int)(l:List Tm):aB (l.map λt=>(t.1.tdiv s,t.2))<=aB l:=by
 induction l with
 |nil=>exact aA _
 |cons t l ih=>
  simp only[List.map_cons,aB];have:=Int.natAbs_tdiv_le_natAbs t.1 s;omega
theorem qfR(l:List Tm):aB (dD l)<=aB l:=aK (qA0 _ _) (Lr l)
theorem qra(l:List Tm):smul (oz (norm l)) (dD l)=norm l:=by
 unfold smul dD;rw[List.map_map]
 conv=>rhs;rw[<-List.map_id (norm l)]
 apply List.map_congr_left;intro t ht;have:=Int.tdiv_mul_cancel (Yf ht);rw[Int.mul_comm]at this;show(oz (norm l)*t.1.tdiv (oz (norm l)),t.2)=t;rw[this]
end Go.Proofs.YtaafefeafonhdaaGreat
