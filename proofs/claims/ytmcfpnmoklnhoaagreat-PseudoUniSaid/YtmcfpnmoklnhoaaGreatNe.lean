/- A range over a function whose body ends normally, where each element comes with what holds of it in the world (a number that has just been made). sparse.Terms as an iterator whose coefficients are told. integer.Neg, division.Exact. sparse.Content. Regions that draw their order, where an operation that reads no memory may come up behind the last one that counts. sparse.SignNormal. mainvar.SignNormal. -/
import Derived.Test.YtmcfpnmoklnhoaaGreatMp
import Derived.Test.YtmcfpnmoklnhoaaGreatNb
set_option linter.unusedVariables false
set_option maxRecDepth 100000
set_option maxHeartbeats 400000000
set_option linter.unusedSimpArgs false

namespace Go.Proofs.YtmcfpnmoklnhoaaGreat
open Go.RowKit

section
variable {F:Fence} {n:Nat} {P:Program} {α:Type}
def qxG (F:Fence) (n:Nat) (P:Program) (g:Nat) (lb:Array Value) (enc:α->Array Value) (Live:α->World->Prop) (Kp:World->World->Prop) (S:List α->Prop) (w:World):Prop:=
 ∀ (l:Nat) (J:List α->World->Prop) (W:World),Below w.heap.size w W->AbidesFrom W.heap.size J ->
  (∀ pre x W1,J pre W1->Live x W1->YieldAt F (n - 1) P l (enc x) W1 fun e W'=>e = .returned (.bool true)/\J (pre ++ [x]) W'/\Kp W1 W') ->
  J [] W->CallsIn F n P g (#[.func (.yield l) #[] #[]] ++ lb) W fun e W'=>(∃ v,e = .returned v) /\ ∃ xs,S xs/\J xs W'
def qqC (B:Nat) (Kp:World->World->Prop) (I:List α->World->Prop) (xs:List α) (W:World):Exit->Act->World->Prop
 | .normal,_,W'=>KeepsFrom B W W'/\Kp W W'/\I xs W'
 | _,_,_=>False
def qdr (D:Nat) (r:Loop) (W:World):Prop:=W.heap[D+1]? = some (.loop r)/\W.heap[D]? = some (.deferred (some []))
theorem qdr.lt {D:Nat} {r:Loop} {W:World} (h:qdr D r W):D+1<W.heap.size:=(Array.getElem?_eq_some_iff.1 h.1).1
theorem qdr.keeps {D:Nat} {r:Loop} {W W':World} (h:qdr D r W) (k:KeepsFrom D W W'):qdr D r W':=⟨k.same _ _ (by omega) h.1 rfl,k.same _ _ (Nat.le_refl _) h.2 rfl⟩
theorem qdr.put {D:Nat} {r:Loop} {W:World} (h:qdr D r W) (s:Loop):qdr D s (W.putObj (D+1) (.loop s)):=⟨World.putObj_heap_same h.lt,(World.putObj_heap_other (by omega)).trans h.2⟩
theorem qdr.step {D:Nat} {r:Loop} {W W':World} {row:Option Nat} (h:qdr D r W) (hg:W.grownBy W' row) (hr : ∀ q,row=some q -> ∃ o:Obj,W.heap[q]? = some o/\o.isWalk=true):qdr D r W':=
 ⟨(grownBy_keeps hg hr h.1 rfl).trans h.1,(grownBy_keeps hg hr h.2 rfl).trans h.2⟩
theorem qet {g : Operand} {ps : Array Tmp} {assign body : Code} {Q : Exit -> Act -> World -> Prop} {a : Act} {w w0 : World}
  (hro:F.round=none) (h1:1<=n) {gf:Nat} {lb:Array Value} (hg:a.eval g = .func (.func gf) #[] lb) (hFg:F.fn gf) (eg : ∀ args w,(callFunc gf args).run P w = .ok (.enter gf args) w)
  {enc:α->Array Value} {Live:α->World->Prop} {Kp:World->World->Prop} {S:List α->Prop} (hseq:qxG F (n - 1) P gf lb enc Live Kp S w0) (hb0:Below w0.heap.size w0 w) (hps : ∀ x,(enc x).size=ps.size)
  (hKt : ∀ {A B C:World},Kp A B->Kp B C->Kp A C) (hKp : ∀ (W:World) (l:Nat) (o:Obj),w.heap.size<=l->Kp W (W.putObj l o))
  (I:List α->World->Prop) (hI:OwnFrom w.heap.size I) (Ax:α->Act->World->Prop) (hAx : ∀ x a',OwnFrom w.heap.size (fun (_:Unit) W=>Ax x a' W))
  (hassign : ∀ (l:Nat) (pre:List α) (x:α) (W:World) (K:Act->World->Prop),I pre W->Live x W->(∀ a' W',KeepsFrom w.heap.size W W'->Kp W W'->I pre W'->Ax x a' W'->K a' W') ->
   assign.wpIn (F.inRound l) (n - 1 - 1) P (Exit.then K (fun _ _ _=>False)) { tmps:=(ps.zip (enc x)).foldl (fun t (p,v)=>t.setIfInBounds p v) a.tmps,defers:=[] } W)
  (hbody : ∀ (l:Nat) (pre:List α) (x:α) (a':Act) (W:World),I pre W->Ax x a' W->body.wpIn (F.inRound l) (n - 1 - 1) P (qqC w.heap.size Kp I (pre ++ [x]) W) a' W)
  (h0:I [] w)
  (hdone : ∀ (D:Nat) (xs:List α) (W:World),w.heap.size<=D->S xs->I xs W->W.heap[D]? = some (.deferred (some []))->Q .normal { a with defers:={ target:=.collected D,args:=#[] } :: a.defers } W) :
  (Code.rangeFunc g ps assign body).wpIn F n P Q a w:=by
 refine wpIn_rangeFunc fun fn hfn=>?_
 let R:LoopState->Loop:=fun st=>{ state:=st,pending:=none,fn,tmps:=a.tmps,params:=ps,assign,body,defers:=w.heap.size }
 let W1:=(w.alloc (.deferred (some []))).alloc (.loop (R .ready))
 have hs1:W1.heap.size=w.heap.size+2:=by show ((w.alloc _).alloc _).heap.size=_;simp
 have hL:qdr w.heap.size (R .ready) W1:=by
  have h2:=World.alloc_heap_new (w.alloc (.deferred (some []))) (.loop (R .ready));rw [World.size_alloc] at h2;exact ⟨h2,(Below.heap_alloc _ _ _ (by simp)).trans (World.alloc_heap_new w _)⟩
 rw [hro];refine ⟨w.heap.size+1,_,W1,{ target:=.fn (.func gf) lb,args:=#[.func (.yield (w.heap.size+1)) #[] #[]] },W1,gf,#[.func (.yield (w.heap.size+1)) #[] #[]] ++ lb,W1,run_enterLoop_outer _ _ _ _ _,?_,?_,?_,fun _=>h1,?_⟩
 ·simp only [resolve,hg];simp [go_sem]
 ·intro f' hf';simp only [Target.leads,Option.some.injEq] at hf';subst hf';exact hFg
 ·simp [invoke,go_sem,eg]
 have hwalk : ∀ {A:World} {row:Option Nat},(∀ r,row=some r->W1.heap.size<=r /\ ∃ o:Obj,A.heap[r]? = some o/\o.isWalk=true) -> ∀ r,row=some r->w.heap.size<=r /\ ∃ o:Obj,A.heap[r]? = some o/\o.isCells=false:=fun hr r e=>by
  obtain ⟨hB,o,ho,hw⟩:=hr r e;exact ⟨by omega,o,ho,Obj.not_cells_of_walk hw⟩
 refine (hseq (w.heap.size+1) (fun pre W=>I pre W/\qdr w.heap.size (R .ready) W) W1 (hb0.trans ((((Below.refl _ w).alloc (Nat.le_refl _) _).alloc (by simp) _).mono hb0.size))
  (fun s A B row hs hgr hr=>⟨hI s A B row hs.1 hgr (hwalk hr),hs.2.step hgr fun q e=>(hr q e).2⟩) ?_ ⟨hI.alloc _ (hI.alloc _ h0),hL⟩).mono ?_
 ·rintro pre x W ⟨hi,hl⟩ hlive;refine ⟨fn,_,assign,body,run_yield (args:=enc x) hl.1 (hps x),roundIn_of_wpIn hfn (hassign _ pre x W _ hi hlive ?_)⟩;intro a' V hkV hpV hiV hax;have hlV:=hl.keeps hkV;refine ⟨_,run_beginRound hlV.1 rfl,?_⟩;have hlB:=hlV.put (R .busy);refine wpIn_mono (hbody _ pre x a' _ (hI.putObj _ hiV (by omega) hlV.1 rfl) ((hAx x a').putObj (s:=()) _ hax (by omega) hlV.1 rfl)) ?_;intro e a3 W3 hp
  cases e with
  | normal=>
   obtain ⟨hk3,hp3,hi3⟩:=hp;have hl3:=hlB.keeps hk3;exact ⟨_,_,run_endRound none hl3.1,rfl,⟨hI.putObj _ hi3 (by omega) hl3.1 rfl,hl3.put (R .ready)⟩,hKt hpV (hKt (hKp _ _ _ (by omega)) (hKt hp3 (hKp _ _ _ (by omega))))⟩
  | ret=>exact hp.elim
  | exit id=>exact hp.elim
  | goto t=>exact hp.elim
  | panic ch=>exact hp.elim
  | outgrown=>exact hp.elim
 ·rintro e W2 ⟨⟨v,rfl⟩,xs,hS,hi,hl⟩;exact ⟨none,_,run_endLoop hl.1 (by intro h;cases h),hdone _ xs _ (Nat.le_refl _) hS (hI.putObj _ hi (by omega) hl.1 rfl) ((World.putObj_heap_other (by omega)).trans hl.2)⟩
end


abbrev Yc:=TE × Int
abbrev ycA (x:Yc):Array Value:=#[.agg #[.int .i64 x.1.m.a,.int .i64 x.1.m.b,.int .i64 x.1.m.c,.int .i64 x.1.m.d],.agg #[.bool x.1.b,.slice x.1.a x.1.n x.1.p]]
def ycL (pre:List Yc):List Tm:=pre.map fun x=>(x.2,x.1.m)
def qpq (X:Nat->Prop) (L:List Tm) (x:Yc) (W:World):Prop:=qbs X W (.bool x.1.b) (.slice x.1.a x.1.n x.1.p) x.2/\(x.2,x.1.m) ∈ L
theorem ql9 (X : Nat -> Prop) (w : World) (cb : Nat) (u : Value) (L : List Tm) (hM : Mb X w) (hc : w.cell? ⟨cb, 0, none⟩ = some u) (hX : ¬ X cb) (hP : qbh X w u L) :
  qxG Fence.wide 2 Tryz.prog 170 #[.pointer (some ⟨cb,0,none⟩)] ycA (qpq X L) (Kq X w.heap.size) (fun xs=>ycL xs=L) w:=by
 intro l J W hW hJ hY h0;have hcb:=World.block_lt_of_cell? _ _ hc;have heW:Ext w W:=hW;obtain ⟨ua,uc,rfl⟩:=hP.form;have HY:=Lib.hid hY;have HJ:=Lib.hid hJ;have HP:=Lib.hid hP
 have hcW:W.cell? ⟨cb,0,none⟩=some (.slice ua L.length uc):=by rw [heW.cell hcb];exact hc
 have hll:=hP.len;have hkW:Kp X w W:=Kp.of_ext heW;clear hY hJ hW hP hc;refine callsIn_wide.2 ?_;show Calls Tryz.prog 170 #[.func (.yield l) #[] #[],.pointer (some ⟨cb,0,none⟩)] W _
 go_enter Tryz.func170,Tryz.ntmps170
 go_wp2
 go_loopw [7] (fun i wr=>∃ (k:Nat) (pre:List Yc),k<=L.length/\i = .int .i64 k/\J pre wr/\Hid (ycL pre=L.take k)/\Kp X w wr) (fun i _=>L.length - (intOf i).toNat)
 case atStart=>exact ⟨0,[],Nat.zero_le _,rfl,h0,(rfl : [] = []),hkW⟩
 case round=>
  clear h0 hkW hcW heW;obtain ⟨k,pre,hk,rfl,hJp,HPR,hkr⟩:=hrel
  by_cases hlt:k<L.length
  ·have hPr:=HP.out.kp hkr;obtain ⟨b,off,c,m,b1,a1,n1,p1,hua,hcap,hmx,hb,x0,x1,x2,x3,x4,x5,hI,hT,hmem⟩:=hPr.at (k:=k) hlt;subst hua;have HT:=Lib.hid hT;have HMEM:=Lib.hid hmem;have hEa:Ext wr (wr.alloc (.cells #[.bool b1,.slice a1 n1 p1,.int .i64 m.a,.int .i64 m.b,.int .i64 m.c,.int .i64 m.d] 129)):=(Ext.refl wr).alloc _;have hBt:=Blk.of_arr wr #[.bool b1,.slice a1 n1 p1,.int .i64 m.a,.int .i64 m.b,.int .i64 m.c,.int .i64 m.d] 129 6 rfl;have HI:=Lib.hid hI;clear hPr hT hmem hI
   go_upto_region 3 with (fail)
   generalize wr.alloc (.cells #[.bool b1,.slice a1 n1 p1,.int .i64 m.a,.int .i64 m.b,.int .i64 m.c,.int .i64 m.d] 129)=Wa at hEa hBt ⊢;clear x0 x1 x2 x3 x4 x5;have HS:Hid (STm wr.heap.size (.bool b1) (.slice a1 n1 p1) m Wa.drew):=STm.ext (w:=Wa) ⟨hBt.cell (i:=0) (by omega),hBt.cell (i:=1) (by omega),hBt.cell (i:=2) (by omega),hBt.cell (i:=3) (by omega),hBt.cell (i:=4) (by omega),hBt.cell (i:=5) (by omega)⟩ (Ext.refl Wa).drew;have hEd:=hEa.trans (Ext.refl Wa).drew;have hMd:=hM.size (Nat.le_trans hkr.1 hEd.size);refine qgc (STm wr.heap.size (.bool b1) (.slice a1 n1 p1) m) 6 (by kernel_rfl) HS.out (fun hHeld=>?_);((refine qba 0 (oi:=?_) (v:=?_) (by kernel_rfl) (by kernel_rfl) (by kernel_rfl) (by kernel_rfl) (by kernel_rfl) (by kernel_rfl) (by first | exact hSn | exact hHeld) ?_ ?_ ?_ ?_ ?_;rotate_left 2;(simp only [xgA,xgB,xgC];rfl);rfl;(intro wS hSw;obtain ⟨S1,S2,S3,S4,S5,S6⟩:=hSw;go_simp;try with_reducible rfl);(exact fun _ _ _ h=>h);(try simp only [Act.put,xgD,xgE,xgF]));(refine qba 1 (oi:=?_) (v:=?_) (by kernel_rfl) (by kernel_rfl) (by kernel_rfl) (by kernel_rfl) (by kernel_rfl) (by kernel_rfl) (by first | exact hSn | exact hHeld) ?_ ?_ ?_ ?_ ?_;rotate_left 2;(simp only [xgA,xgB,xgC];rfl);rfl;(intro wS hSw;obtain ⟨S1,S2,S3,S4,S5,S6⟩:=hSw;go_simp;try with_reducible rfl);(exact fun _ _ _ h=>h);(try simp only [Act.put,xgD,xgE,xgF]));(refine qba 2 (oi:=?_) (v:=?_) (by kernel_rfl) (by kernel_rfl) (by kernel_rfl) (by kernel_rfl) (by kernel_rfl) (by kernel_rfl) (by first | exact hSn | exact hHeld) ?_ ?_ ?_ ?_ ?_;rotate_left 2;(simp only [xgA,xgB,xgC];rfl);rfl;(intro wS hSw;obtain ⟨S1,S2,S3,S4,S5,S6⟩:=hSw;go_simp;try with_reducible rfl);(exact fun _ _ _ h=>h);(try simp only [Act.put,xgD,xgE,xgF]));(refine qba 3 (oi:=?_) (v:=?_) (by kernel_rfl) (by kernel_rfl) (by kernel_rfl) (by kernel_rfl) (by kernel_rfl) (by kernel_rfl) (by first | exact hSn | exact hHeld) ?_ ?_ ?_ ?_ ?_;rotate_left 2;(simp only [xgA,xgB,xgC];rfl);rfl;(intro wS hSw;obtain ⟨S1,S2,S3,S4,S5,S6⟩:=hSw;go_simp;try with_reducible rfl);(exact fun _ _ _ h=>h);(try simp only [Act.put,xgD,xgE,xgF]));(refine qba 4 (oi:=?_) (v:=?_) (by kernel_rfl) (by kernel_rfl) (by kernel_rfl) (by kernel_rfl) (by kernel_rfl) (by kernel_rfl) (by first | exact hSn | exact hHeld) ?_ ?_ ?_ ?_ ?_;rotate_left 2;(simp only [xgA,xgB,xgC];rfl);rfl;(intro wS hSw;obtain ⟨S1,S2,S3,S4,S5,S6⟩:=hSw;go_simp;try with_reducible rfl);(exact fun _ _ _ h=>h);(try simp only [Act.put,xgD,xgE,xgF])))
   (refine qdd 5 (o:=?_) (by kernel_rfl) (by kernel_rfl) ?_ ?_;rotate_left 1;(simp only [xgA,xgB,xgC];rfl);intro K hK);go_simp;refine (qbT _ _ c _ hMd (HI.out.ext hEd)).mono ?_;rintro e_ wz ⟨e0,e1,rfl,hr,he1⟩;go_wp2_with (fail);refine hK.out _ _ (fun _=>hHeld.ext he1) ?_;clear hK K;(try simp only [Act.put,xgD,xgE,xgF]);obtain ⟨b2,a2,n2,p2,rfl,rfl⟩:=hr.form;have hEz:=hEd.trans he1;have hJz:J pre wz:=HJ.out pre wr wz none hJp (hEz.grownBy none) (fun r e=>by cases e);obtain ⟨fn,tmps,assign,body,hy,hR⟩:=HY.out pre (⟨b2,a2,n2,p2,m⟩,c) wz hJz ⟨hr,HMEM.out⟩;(refine qfx (o:=?_) (by kernel_rfl) ?_ ?_;rotate_left 1;(simp only [xgA,xgB,xgC];rfl);intro K hK);rw [if_pos (by rfl)];refine ⟨fun _ _=>trivial,?_⟩;rw [Fence.wide_round,Oper.semAt_none];go_simp;clear hy;refine hR.mono ?_;have hkz:Kp X w wz:=hkr.trans (Kp.of_ext hEz)
   have HPR2:Hid (ycL (pre ++ [(⟨b2,a2,n2,p2,m⟩,c)])=L.take (k+1)):=by
    show _=_;rw [HT.out,<- HPR.out];simp [ycL]
   rintro e_ wy ⟨rfl,hJy,hky⟩;have hkF:Kp X w wy:=⟨Nat.le_trans hkz.1 hky.1,fun q hq hx=>(hky.2 q hq hx).trans (hkz.2 q hq hx)⟩;clear hR hkz hky hJz hEz hr he1 hEd hMd hHeld hEa hBt hJp hkr;refine hK.out _ _ ?_;clear hK K;(try simp only [Act.put,xgD,xgE,xgF]);(refine qdd 7 (o:=?_) (by kernel_rfl) (by kernel_rfl) ?_ ?_;rotate_left 1;(simp only [xgA,xgB,xgC];rfl);intro K hK);go_simp;refine hK.out _ _ (fun h=>by cases h) ?_;clear hK K;(try simp only [Act.put,xgD,xgE,xgF]);refine qeu (by kernel_rfl) ?_ _;go_wp2
   go_roundw
   case rel=>exact ⟨k+1,_,by omega,by go_num,hJy,HPR2,hkF⟩
   case measure=>simp [intOf];omega
  ·have hk2:k=L.length:=by omega
   subst hk2
   have HF:Hid (ycL pre=L):=by show _=_;rw [HPR.out,List.take_length]
   go_wp2
   go_end0
   exact ⟨⟨_,rfl⟩,pre,HF.out,hJp⟩


theorem qnv (b:Bool) (x:Nat):sgn (!b) x = -sgn b x:=by
 unfold sgn;cases b <;> simp
theorem qto {M : Nat -> Prop} (b : Bool) (a : Option Addr) (n p : Nat) (z : Int) (w : World) (hM : Mb M w) (h : qbn M w (.bool b) (.slice a n p) z) :
  Calls Tryz.prog 139 #[.agg #[.bool b,.slice a n p]] w fun e w'=>∃ (b2:Bool) (a2:Option Addr) (n2 p2:Nat),e = .returned (.agg #[.bool b2,.slice a2 n2 p2])/\qbs M w' (.bool b2) (.slice a2 n2 p2) (-z)/\Ext w w':=by
 have hE0:Ext w ((w.alloc (.cells #[.bool b,.slice a n p] 30)).alloc (.cells zI 30)):=((Ext.refl w).alloc _).alloc _;have hB1:=Blk.of_arr (w.alloc (.cells #[.bool b,.slice a n p] 30)) zI 30 2 rfl;simp only [World.size_alloc] at hB1;have hM0:Mb (Mx M w.heap.size (w.heap.size+2)) ((w.alloc (.cells #[.bool b,.slice a n p] 30)).alloc (.cells zI 30)):=Mx.mb hM (by simp;omega) (by simp);obtain ⟨nb,x,hb,hx,rfl⟩:=(h.more (M':=Mx M w.heap.size (w.heap.size+2)) (Mx.more (Nat.le_refl _))).ext hE0;simp only [Value.bool.injEq] at hb;subst hb;have CTR:=Lib.hid (qef (!b) _ x _ hM0 hx);rw [qnv] at CTR;have HB:=Lib.hid hB1;have HE:=Lib.hid hE0;clear hE0 hB1 hM0 h hM hx
 go_enter Tryz.func139,Tryz.ntmps139
 go_wp2_with (fail);refine CTR.out.mono ?_;rintro e w1 ⟨d0,d1,rfl,hc,he1⟩;obtain ⟨kb,ka,kn,kp,rfl,rfl⟩:=hc.form;obtain ⟨⟨q0,q1,f0,f1⟩,⟨r0,r1⟩,hkp,hext⟩:=qf1 (M':=Mx M w.heap.size (w.heap.size+2)) (w:=w) (.bool kb) (.slice ka kn kp) (HB.out.ext he1) (Mx.at (by omega)) (by omega) (HE.out.trans he1)
 have HF:Hid (∃ (b2:Bool) (a2:Option Addr) (n2 p2:Nat),Ending.returned (.agg #[.bool kb,.slice ka kn kp]) = .returned (.agg #[.bool b2,.slice a2 n2 p2])/\qbs M ((w1.setCell ⟨w.heap.size+1,0,none⟩ (.bool kb)).setCell ⟨w.heap.size+1,1,none⟩ (.slice ka kn kp)) (.bool b2) (.slice a2 n2 p2) (-sgn b x)/\Ext w ((w1.setCell ⟨w.heap.size+1,0,none⟩ (.bool kb)).setCell ⟨w.heap.size+1,1,none⟩ (.slice ka kn kp))):=
  ⟨_,_,_,_,rfl,(hc.kp hkp).more Mx.less,hext⟩
 simp only [arr] at q0 q1;clear CTR hc he1 hkp hext;go_wp2;exact bodyPost_ret (v:=.agg #[.bool kb,.slice ka kn kp]) (by simp [results,Tryz.results139,go_sem,r0,r1]) rfl HF.out
def qiw (M:Nat->Prop) (w:World) (y z:Int) (e:Ending) (w':World):Prop:=∃ (b:Bool) (a:Option Addr) (n p:Nat) (er:Int),e = .returned (.tuple #[.agg #[.bool b,.slice a n p],.int .i64 er]) /\
 (y.tmod z=0->er=0/\qbs M w' (.bool b) (.slice a n p) (y.tdiv z))/\(y.tmod z≠0->er=3/\qbs M w' (.bool b) (.slice a n p) 0)/\Ext w w'
theorem qf4 {M : Nat -> Prop} (b : Bool) (a : Option Addr) (n p : Nat) (y : Int) (b' : Bool) (a' : Option Addr) (n' p' : Nat) (z : Int) (w : World) (hM : Mb M w) (h : qbn M w (.bool b) (.slice a n p) y) (h' : qbn M w (.bool b') (.slice a' n' p') z) (hz : z ≠ 0) (hL : dlen y.natAbs + 1 <= 1099511627776) :
  Calls Tryz.prog 69 #[.agg #[.bool b,.slice a n p],.agg #[.bool b',.slice a' n' p']] w (qiw M w y z):=by
 have hB0:=((Blk.of_arr w #[.bool b,.slice a n p] 30 2 rfl).alloc (.cells #[.bool b',.slice a' n' p'] 30)).alloc (.cells zI 30);have hB1:=(Blk.of_arr (w.alloc (.cells #[.bool b,.slice a n p] 30)) #[.bool b',.slice a' n' p'] 30 2 rfl).alloc (.cells zI 30);have hB2:=Blk.of_arr ((w.alloc (.cells #[.bool b,.slice a n p] 30)).alloc (.cells #[.bool b',.slice a' n' p'] 30)) zI 30 2 rfl;have hE0:Ext w (((w.alloc (.cells #[.bool b,.slice a n p] 30)).alloc (.cells #[.bool b',.slice a' n' p'] 30)).alloc (.cells zI 30)):=(((Ext.refl w).alloc _).alloc _).alloc _;simp only [World.size_alloc] at hB1 hB2;have hM0:Mb (Mx M w.heap.size (w.heap.size+3)) (((w.alloc (.cells #[.bool b,.slice a n p] 30)).alloc (.cells #[.bool b',.slice a' n' p'] 30)).alloc (.cells zI 30)):=Mx.mb hM (by simp;omega) (by simp);have h0:=(h.more (M':=Mx M w.heap.size (w.heap.size+3)) (Mx.more (Nat.le_refl _))).ext hE0;have h0':=(h'.more (M':=Mx M w.heap.size (w.heap.size+3)) (Mx.more (Nat.le_refl _))).ext hE0;generalize hW0:((w.alloc (.cells #[.bool b,.slice a n p] 30)).alloc (.cells #[.bool b',.slice a' n' p'] 30)).alloc (.cells zI 30)=W0 at *;have HW0:=Lib.hid hW0;have HB2:=Lib.hid hB2;have HE0:=Lib.hid hE0;have HM0:=Lib.hid hM0;have c0:=hB0.cell (i:=0) (by omega);have c1:=hB0.cell (i:=1) (by omega);have c2:=hB1.cell (i:=0) (by omega);have c3:=hB1.cell (i:=1) (by omega);simp only [arr] at c0 c1 c2 c3;have g0:=hB0.lt;have g1:=hB1.lt;have CTR:=Lib.hid (qvx b a n p y b' a' n' p' z W0 hM0 h0 h0' hz hL);clear h h' hM hW0 hB0 hB1 hB2 hE0 hM0 h0 h0' hz hL
 go_enter Tryz.func69,Tryz.ntmps69
 go_upto_region 1 with (fail)
 rw [HW0.out];go_wp2_with (fail);refine CTR.out.mono ?_;rintro e w1 ⟨qb,qa,qn,qp,rb,ra,rn,rp,rfl,hq,hr,he1⟩;clear CTR c0 c1 c2 c3 g0 g1
 go_upto_region 2 with (fail)
 have hG1:=(Blk.of_arr w1 #[.bool qb,.slice qa qn qp] 30 2 rfl).alloc (.cells #[.bool rb,.slice ra rn rp] 30);have hG2:=Blk.of_arr (w1.alloc (.cells #[.bool qb,.slice qa qn qp] 30)) #[.bool rb,.slice ra rn rp] 30 2 rfl;have hEA:Ext w1 ((w1.alloc (.cells #[.bool qb,.slice qa qn qp] 30)).alloc (.cells #[.bool rb,.slice ra rn rp] 30)):=((Ext.refl _).alloc _).alloc _;simp only [World.size_alloc] at hG2;have hq2:=hq.ext hEA;have hr2:=hr.ext hEA;have hb2:=(HB2.out.ext he1).ext hEA;have hE1:=he1.trans hEA
 have hng:w.heap.size+3<=w1.heap.size:=by have:=(HB2.out.ext he1).lt;omega
 generalize hG:w1.heap.size=G at *;generalize hW1:(w1.alloc (.cells #[.bool qb,.slice qa qn qp] 30)).alloc (.cells #[.bool rb,.slice ra rn rp] 30)=W1 at *;have c0:=hG1.cell (i:=0) (by omega);have c1:=hG1.cell (i:=1) (by omega);have c2:=hG2.cell (i:=0) (by omega);have c3:=hG2.cell (i:=1) (by omega);simp only [arr] at c0 c1 c2 c3;have g1:=hG1.lt;have g2:=hG2.lt;have HQ:=Lib.hid hq2;have HB:=Lib.hid hb2;have HE1:=Lib.hid hE1;have CT2:=Lib.hid (qjg rb ra rn rp (y.tmod z) W1 hr2.toV);have HG1:=Lib.hid hG1;clear hG1 hG2 hEA hq2 hr2 hb2 hE1 hG hW1 hq hr he1;go_wp2_with (fail);refine CT2.out.mono ?_;rintro e w2 ⟨rfl,he2⟩;clear CT2 c2 c3 g2
 by_cases hm:y.tmod z=0
 ·have hmd:decide (y.tmod z=0)=true:=by simp [hm]
  have HMZ:=Lib.hid hm;clear hm;obtain ⟨⟨q0,q1,f0,f1⟩,⟨r0,r1⟩,hkp,hext⟩:=qf1 (M':=Mx M w.heap.size (w.heap.size+3)) (w:=w) (.bool qb) (.slice qa qn qp) (HB.out.ext he2) (Mx.at (by omega)) (by omega) ((HE0.out.trans HE1.out).trans he2)
  have HF:Hid (qiw M w y z (.returned (.tuple #[.agg #[.bool qb,.slice qa qn qp],.int .i64 0])) ((w2.setCell ⟨w.heap.size+1+1,0,none⟩ (.bool qb)).setCell ⟨w.heap.size+1+1,1,none⟩ (.slice qa qn qp))):=
   ⟨_,_,_,_,0,rfl,fun _=>⟨rfl,((HQ.out.ext he2).kp hkp).more Mx.less⟩,fun h=>absurd HMZ.out h,hext⟩
  rw [<- he2.cell g1] at c0 c1;have g1':=Nat.lt_of_lt_of_le g1 he2.size;simp only [arr] at q0 q1;clear hkp hext g1 he2;go_wp2;exact bodyPost_ret (v:=.tuple #[.agg #[.bool qb,.slice qa qn qp],.int .i64 0]) (by simp [results,Tryz.results69,go_sem,r0,r1]) rfl HF.out
 ·have hmd:decide (y.tmod z=0)=false:=by simp [hm]
  have HMZ:=Lib.hid hm;clear hm c0 c1 g1;obtain ⟨⟨q0,q1,f0,f1⟩,⟨r0,r1⟩,hkp,hext⟩:=qf1 (M':=Mx M w.heap.size (w.heap.size+3)) (w:=w) (.bool false) (.slice none 0 0) (HB.out.ext he2) (Mx.at (by omega)) (by omega) ((HE0.out.trans HE1.out).trans he2)
  have HF:Hid (qiw M w y z (.returned (.tuple #[.agg #[.bool false,.slice none 0 0],.int .i64 3])) ((w2.setCell ⟨w.heap.size+1+1,0,none⟩ (.bool false)).setCell ⟨w.heap.size+1+1,1,none⟩ (.slice none 0 0))):=
   ⟨_,_,_,_,3,rfl,fun h=>absurd h HMZ.out,fun _=>⟨rfl,qbs.zero _ _⟩,hext⟩
  simp only [arr] at q0 q1;clear hkp hext he2;go_wp2;exact bodyPost_ret (v:=.tuple #[.agg #[.bool false,.slice none 0 0],.int .i64 3]) (by simp [results,Tryz.results69,go_sem,r0,r1]) rfl HF.out

theorem Blk.setI2 {w:World} {g:Nat} {t:TypeId} {f:Nat->Value} (h:Blk w g t 2 f) (A B:Value):Blk ((w.setCell ⟨g,0,none⟩ A).setCell ⟨g,1,none⟩ B) g t 2 (arr #[A,B]):=
 ((h.set 0 A).set 1 B).congr fun i hi=>by
  have:i=0∨i=1:=by omega
  rcases this with rfl | rfl <;> rfl
attribute [local go_sem] Oper.semAt_some

def gcL (l:List Tm):Nat:=l.foldl (fun g t=>Nat.gcd g t.1.natAbs) 0
theorem qqL (l:List Tm) (t:Tm):gcL (l ++ [t])=Nat.gcd (gcL l) t.1.natAbs:=by simp [gcL]
theorem qmv (a b:Nat):Nat.gcd a b<=max a b:=by
 rcases Nat.eq_zero_or_pos a with h | h
 ·subst h;rw [Nat.gcd_zero_left];omega
 ·have:=Nat.gcd_le_left b h;omega
theorem qe6 {w:World} {b o:Nat} {v:Value} (h:w.cell? ⟨b,o,none⟩=some v) : ∃ q:Obj,w.heap[b]? = some q/\q.isCells=true:=by
 unfold World.cell? at h
 cases ho:w.heap[b]? with
 | none=>simp [ho] at h
 | some q=>exact ⟨q,rfl,by cases q <;> simp_all [Obj.isCells]⟩
theorem qbv.grown {M:Nat->Prop} {W W':World} {v:Value} {n:Nat} {d:Nat->Nat} {row:Option Nat} (h:qbv M W v n d) (hg:W.grownBy W' row) (hr : ∀ r,row=some r -> ∃ o:Obj,W.heap[r]? = some o/\o.isCells=false):qbv M W' v n d:=by
 obtain ⟨h1,h2,h3⟩:=h;refine ⟨h1,h2,?_⟩;rcases Nat.eq_zero_or_pos n with h0 | h0
 ·rcases h3 with h3 | ⟨b,off,cap,hv,hn,hc,hb,hcell⟩
  ·exact .inl h3
  ·exact .inr ⟨b,off,cap,hv,hn,hc,⟨Nat.lt_of_lt_of_le hb.1 hg.size,hb.2⟩,fun i hi=>by omega⟩
 ·rcases h3 with ⟨h4,_⟩ | ⟨b,off,cap,hv,hn,hc,hb,hcell⟩
  ·omega
  ·have hne : some b ≠ row := fun e => by
    obtain ⟨o,ho,hno⟩:=hr b e.symm;obtain ⟨q,hq,hyes⟩:=qe6 (hcell 0 h0);rw [ho] at hq;cases hq;rw [hno] at hyes;cases hyes
   exact .inr ⟨b,off,cap,hv,hn,hc,⟨Nat.lt_of_lt_of_le hb.1 hg.size,hb.2⟩,fun i hi=>by rw [World.cell?_of_block (w:=W) (hg.block b hb.1 hne)];exact hcell i hi⟩
theorem qbs.grown {M:Nat->Prop} {W W':World} {c0 c1:Value} {z:Int} {row:Option Nat} (h:qbs M W c0 c1 z) (hg:W.grownBy W' row) (hr : ∀ r,row=some r -> ∃ o:Obj,W.heap[r]? = some o/\o.isCells=false):qbs M W' c0 c1 z:=by
 obtain ⟨⟨n,d,h1,h2,h3⟩,h4⟩:=h;exact ⟨⟨n,d,h1.grown hg hr,h2,h3⟩,h4⟩
theorem Blk.grownN {W W':World} {g:Nat} {t:TypeId} {n:Nat} {f:Nat->Value} {row:Option Nat} (h:Blk W g t n f) (hg:W.grownBy W' row) (hr : ∀ r,row=some r -> ∃ o:Obj,W.heap[r]? = some o/\o.isCells=false):Blk W' g t n f:=
 h.grown hg fun e=>by
  obtain ⟨o,ho,hno⟩:=hr g e.symm;obtain ⟨cur,hc,_⟩:=h;rw [hc] at ho;cases ho;cases hno
section
variable {M M':Nat->Prop} {w w':World} {v:Value} {l:List Tm}
theorem qfs.ext (h:qfs M w v l) (he:Ext w w'):qfs M w' v l:=by
 obtain ⟨n,z,m,c0,c1,⟨hnL,hrow⟩,h1,h2⟩:=h;refine ⟨n,z,m,c0,c1,⟨hnL,?_⟩,h1,fun i hi=>(h2 i hi).ext he⟩;rcases hrow with hrow | ⟨b,off,cap,hv,hn,hc,hb,hcell⟩
 ·exact .inl hrow
 ·refine .inr ⟨b,off,cap,hv,hn,hc,⟨Nat.lt_of_lt_of_le hb.1 he.size,fun h=>h⟩,fun i hi=>?_⟩;rw [he.cell hb.1,he.cell hb.1,he.cell hb.1,he.cell hb.1,he.cell hb.1,he.cell hb.1];exact hcell i hi
theorem qfs.more (h:qfs M w v l) (hm : ∀ g,M' g->M g∨w.heap.size<=g):qfs M' w v l:=by
 obtain ⟨n,z,m,c0,c1,h0,h1,h2⟩:=h;exact ⟨n,z,m,c0,c1,h0,h1,fun i hi=>(h2 i hi).more hm⟩
theorem qfs.form (h:qfs M w v l) : ∃ a cap,v = .slice a l.length cap:=by
 obtain ⟨n,z,m,c0,c1,⟨hnL,hrow⟩,rfl,hI⟩:=h;rw [show (tls n z m).length=n by simp [tls]];rcases hrow with ⟨⟨_,_,rfl,_⟩,rfl⟩ | ⟨b,off,cap,rfl,_⟩
 ·exact ⟨_,_,rfl⟩
 ·exact ⟨_,_,rfl⟩
theorem qcA.toW {B:Nat} (h:qcA M B w v l):qfs (MR M v) w v l:=by
 obtain ⟨n,z,x,hO,hI,rfl,hn,_⟩:=h;refine ⟨n,z,fun i=>(x i).m,fun i=>.bool (x i).b,fun i=>.slice (x i).a (x i).n (x i).p,⟨hn,?_⟩,rfl,fun i hi=>(hI i hi).toV⟩;rcases hO with ⟨rfl,h0⟩ | ⟨g,cap,F,rfl,hb,hB,h1,h2,hF⟩
 ·exact .inl ⟨⟨none,0,rfl,Nat.zero_le _⟩,h0⟩
 ·refine .inr ⟨g,0,cap,rfl,h1,h2,⟨hB.lt,fun h=>h⟩,fun i hi=>?_⟩
  have key : ∀ q,q<6->w.cell? ⟨g,0+i*6+q,none⟩=some (tx x (i*6+q)):=fun q hq=>by
   rw [Nat.zero_add,hB.cell (by omega),hF _ (by omega)]
  have e0 : ∀ q,q<6->(i*6+q) / 6=i/\(i*6+q) % 6=q:=fun q hq=>by omega
  refine ⟨?_,?_,?_,?_,?_,?_⟩
  ·rw [show 0+i*6=0+i*6+0 by omega,key 0 (by omega)];unfold tx;rw [Nat.add_zero,qen]
  ·rw [key 1 (by omega)];unfold tx;rw [qem]
  ·rw [key 2 (by omega)];unfold tx;rw [qgn]
  ·rw [key 3 (by omega)];unfold tx;rw [qgm]
  ·rw [key 4 (by omega)];unfold tx;rw [qgl]
  ·rw [key 5 (by omega)];unfold tx;rw [qgk]
end
theorem qnq (M : Nat -> Prop) (v : Value) (l : List Tm) (w : World) (hM : Mb M w) (hP : qfs M w v l) (hL : dlen (nrm l) <= 1099511627776) :
  Calls Tryz.prog 152 #[v] w fun e w'=>∃ u cb,e = .returned (.func (.func 170) #[] #[.pointer (some ⟨cb,0,none⟩)])/\w'.cell? ⟨cb,0,none⟩=some u/\w.heap.size<=cb/\qbh M w' u (norm l)/\Ext w w':=by
 obtain ⟨va,vc,rfl⟩:=hP.form;have HP:=Lib.hid hP;clear hP
 go_enter Tryz.func152,Tryz.ntmps152
 go_wp2_with (fail);refine (qhc M _ l w hM HP.out hL).mono ?_;rintro e w1 ⟨u,rfl,hu,he1⟩;obtain ⟨ua,uc,rfl⟩:=hu.toV.form;have hB:=Blk.of_alloc1 w1 (.slice ua (norm l).length uc) 71
 have HF:Hid (∃ u cb,Ending.returned (.func (.func 170) #[] #[.pointer (some ⟨w1.heap.size,0,none⟩)]) = .returned (.func (.func 170) #[] #[.pointer (some ⟨cb,0,none⟩)])/\(w1.alloc (.cells #[.slice ua (norm l).length uc] 71)).cell? ⟨cb,0,none⟩=some u/\w.heap.size<=cb/\qbh M (w1.alloc (.cells #[.slice ua (norm l).length uc] 71)) u (norm l)/\Ext w (w1.alloc (.cells #[.slice ua (norm l).length uc] 71))):=
  ⟨_,_,rfl,hB.cell (i:=0) (by omega),he1.size,hu.toV.ext ((Ext.refl w1).alloc _),he1.alloc _⟩
 clear hu hB he1;go_wp2;go_ret;exact HF.out
def CnI (X:Nat->Prop) (w1 w2:World) (G:Nat) (L:List Tm) (pre:List Yc) (W:World):Prop:=
 ∃ x:I4,Blk W G 30 2 (arr (iA x))/\qbs X W (.bool x.b) (.slice x.a x.n x.p) (gcL (ycL pre):Nat)/\gcL (ycL pre)<=nrm L/\Ext w1 W/\w2.heap.size<=W.heap.size
theorem CnI.own {X:Nat->Prop} {w1 w2:World} {G:Nat} {L:List Tm} (h12:w1.heap.size<=w2.heap.size):OwnFrom w2.heap.size (CnI X w1 w2 G L):=by
 rintro pre W W' row ⟨x,h1,h2,h3,h4,h5⟩ hg hr;have hr':=fun r e=>(hr r e).2;exact ⟨x,h1.grownN hg hr',h2.grown hg hr',h3,h4.grown hg (fun k hk=>by have:=(hr k hk).1;omega),Nat.le_trans h5 hg.size⟩
theorem qmf (M : Nat -> Prop) (v : Value) (l : List Tm) (w : World) (hM : Mb M w) (hP : qfs M w v l) (hL : dlen (nrm l) + 1 <= 1099511627776) :
  Calls Tryz.prog 151 #[v] w fun e w'=>∃ (b:Bool) (a:Option Addr) (n p:Nat),e = .returned (.agg #[.bool b,.slice a n p])/\qbs M w' (.bool b) (.slice a n p) (gcL (norm l):Nat)/\Ext w w':=by
 obtain ⟨va,vc,rfl⟩:=hP.form;have hE0:Ext w (w.alloc (.cells zI 30)):=(Ext.refl w).alloc _;have hB0:=Blk.of_arr w zI 30 2 rfl;have hM0:Mb (Mx M w.heap.size (w.heap.size+1)) (w.alloc (.cells zI 30)):=Mx.mb hM (by simp) (by simp);have HP:=Lib.hid ((hP.more (M':=Mx M w.heap.size (w.heap.size+1)) (Mx.more (Nat.le_refl _))).ext hE0);generalize hW0:w.alloc (.cells zI 30)=W0 at *;have HW0:=Lib.hid hW0;have HB0:=Lib.hid hB0;have HE0:=Lib.hid hE0;have HM0:=Lib.hid hM0;have CTR:=Lib.hid (qhu 0 W0 hM0 (by omega) (by omega));clear hP hW0 hB0 hE0 hM0 hM;refine callsIn_wide.1 (callsIn_of_wp_marks (F:=Fence.wide) (n:=3) Tryz.func151 rfl trivial ?_);refine wpIn_wide.2 ?_;simp only [Tryz.ntmps151,List.size_toArray,List.length_cons,List.length_nil,Nat.reduceAdd,Nat.reduceSub,Array.replicate_succ,Array.replicate_zero,List.push_toArray,List.append_toArray,List.nil_append,List.cons_append]
 go_upto_region 1 with (fail)
 rw [HW0.out];go_wp2_with (fail);refine CTR.out.mono ?_;rintro e w1 ⟨d0,d1,rfl,hc,he1⟩;obtain ⟨kb,ka,kn,kp,rfl,rfl⟩:=hc.form
 go_upto_region 2 with (fail)
 have hEa:Ext w1 (w1.alloc (.cells #[.bool kb,.slice ka kn kp] 30)):=(Ext.refl _).alloc _;have hBa:=Blk.of_arr w1 (iA ⟨kb,ka,kn,kp⟩) 30 2 rfl;have hGW:W0.heap.size<=w1.heap.size:=he1.size;have hs1:=(hc.more (M':=fun g=>Mx M w.heap.size (w.heap.size+1) g∨g=w1.heap.size) (fun g hg=>hg.imp id (fun e=>by omega))).ext hEa;have hP1:=((HP.out.more (M':=fun g=>Mx M w.heap.size (w.heap.size+1) g∨g=w1.heap.size) (fun g hg=>hg.imp id (fun e=>by omega))).ext he1).ext hEa;have hMG:Mb (fun g=>Mx M w.heap.size (w.heap.size+1) g∨g=w1.heap.size) (w1.alloc (.cells #[.bool kb,.slice ka kn kp] 30)):=fun g hg=>hg.elim (fun h1=>(HM0.out.ext (he1.trans hEa)) g h1) (fun h1=>by rw [h1];exact hBa.lt);have hgW:=HB0.out.lt;obtain ⟨G,hG⟩ : ∃ G,G=w1.heap.size:=⟨_,rfl⟩;rw [<- hG] at hBa hs1 hGW hP1 hMG;rw [<- hG];obtain ⟨W2,hW2⟩ : ∃ W2,W2=w1.alloc (.cells #[.bool kb,.slice ka kn kp] 30):=⟨_,rfl⟩;rw [<- hW2] at hBa hs1 hEa hP1 hMG;rw [<- hW2];have CT2:=Lib.hid (qnq _ _ l W2 hMG hP1 (by omega));have HBa:=Lib.hid hBa;have HS1:=Lib.hid hs1;have HEA:=Lib.hid hEa;have HE1:=Lib.hid he1;have HMG:=Lib.hid hMG;have HGW:=Lib.hid hG;clear hG hW2 hEa hBa hs1 hP1 hMG hc he1;go_wp2_with (fail);refine CT2.out.mono ?_;rintro e w2 ⟨u,cb,rfl,hcb,hcs,hu,he2⟩;have HX:=Lib.hid (ql9 _ w2 cb u (norm l) (HMG.out.ext he2) hcb (fun h=>by have:=HMG.out cb h;omega) hu);have h12:w1.heap.size<=w2.heap.size:=(HEA.out.trans he2).size;have hG2:G<w2.heap.size:=Nat.lt_of_lt_of_le HBa.out.lt he2.size;have hnn:=qcw l;have hI0:CnI (fun g=>Mx M w.heap.size (w.heap.size+1) g∨g=G) w1 w2 G (norm l) [] w2:=⟨⟨kb,ka,kn,kp⟩,HBa.out.ext he2,HS1.out.ext he2,Nat.zero_le _,HEA.out.trans he2,Nat.le_refl _⟩
 have HI0:=Lib.hid hI0;clear hI0 CT2 hcb hcs hu HBa HS1;go_wp2
 refine wpIn_wide.1 (qet (F:=Fence.wide) (n:=3) rfl (by omega) (gf:=170) (lb:=#[.pointer (some ⟨cb,0,none⟩)]) rfl trivial (enters_of Tryz.func170 (by kernel_rfl) rfl) HX.out (Below.refl _ _) (fun _=>rfl) Kq.trans (fun W l o hl=>Kq.putObj W l o hl)
  (CnI (fun g=>Mx M w.heap.size (w.heap.size+1) g∨g=G) w1 w2 G (norm l)) (CnI.own h12)
  (fun x a' W=>∃ Bx,w2.heap.size<=Bx/\Blk W Bx 30 2 (arr (iA ⟨x.1.b,x.1.a,x.1.n,x.1.p⟩))/\qpq (fun g=>Mx M w.heap.size (w.heap.size+1) g∨g=G) (norm l) x W/\a' = { tmps:=#[.slice va l.length vc,undef,.pointer (some ⟨w.heap.size,0,none⟩),.pointer (some ⟨G,0,none⟩),undef,.pointer (some ⟨Bx,0,none⟩),.agg #[.bool kb,.slice ka kn kp],.slice va l.length vc,.func (.func 170) #[] #[.pointer (some ⟨cb,0,none⟩)],.agg #[.int .i64 x.1.m.a,.int .i64 x.1.m.b,.int .i64 x.1.m.c,.int .i64 x.1.m.d],.agg #[.bool x.1.b,.slice x.1.a x.1.n x.1.p],undef,undef,undef,undef],defers:=[] })
  (fun x a' s W W' row h hg hr=>?hax) ?assign ?body HI0.out ?done)
 case hax=>
  obtain ⟨Bx,h1,h2,h3,h4⟩:=h;have hr':=fun r e=>(hr r e).2;exact ⟨Bx,h1,h2.grownN hg hr',⟨h3.1.grown hg hr',h3.2⟩,h4⟩
 case assign=>
  rintro lq pre x W K ⟨x0,i1,i2,i3,i4,i5⟩ hlive hK
  gi_wp2
  have hEa:Ext W (W.alloc (.cells #[.bool x.1.b,.slice x.1.a x.1.n x.1.p] 30)):=(Ext.refl W).alloc _;exact hK _ _ ((KeepsOthers.alloc _ _).from _) (Kq.of_ext hEa i5) ⟨x0,i1.ext hEa,i2.ext hEa,i3,i4.trans hEa,Nat.le_trans i5 hEa.size⟩ ⟨W.heap.size,i5,Blk.of_arr W (iA ⟨x.1.b,x.1.a,x.1.n,x.1.p⟩) 30 2 rfl,⟨hlive.1.ext hEa,hlive.2⟩,rfl⟩
 case body=>
  rintro lq pre x a' W ⟨x0,i1,i2,i3,i4,i5⟩ ⟨Bx,hBx,hBm,hlive,rfl⟩;have c0:=i1.cell (i:=0) (by omega);have c1:=i1.cell (i:=1) (by omega);have c2:=hBm.cell (i:=0) (by omega);have c3:=hBm.cell (i:=1) (by omega);simp only [arr] at c0 c1 c2 c3;have g0:=i1.lt;have g1:=hBm.lt;have hxn:x.2.natAbs<=nrm (norm l):=qj6 hlive.2;have hMW:Mb (fun g=>Mx M w.heap.size (w.heap.size+1) g∨g=G) W:=(HMG.out.ext he2).size i5;have ctr:=qvy x0.b x0.a x0.n x0.p (gcL (ycL pre):Nat) x.1.b x.1.a x.1.n x.1.p x.2 W hMW i2.toV hlive.1.toV (by rw [Int.natAbs_natCast];have:=qah i3;have:=qah hnn;omega) (by have:=qah hxn;have:=qah hnn;omega);have CTR:=Lib.hid ctr;clear ctr
  gi_wp2_with (fail)
  refine ⟨trivial,?_⟩;show CallsIn Fence.wide 0 Tryz.prog 137 _ W _;refine callsIn_wide.2 (CTR.out.mono ?_);rintro e w3 ⟨gb,ga,gn,gp,rfl,hg,he3⟩;rw [Int.natAbs_natCast] at hg;have hb3:=i1.ext he3;obtain ⟨⟨q0,q1,f0,f1⟩,⟨r0,r1⟩,hkp,hext⟩:=qf1 (M':=fun g=>Mx M w.heap.size (w.heap.size+1) g∨g=G) (w:=w1) (.bool gb) (.slice ga gn gp) hb3 (.inr rfl) (by rw [HGW.out];exact Nat.le_refl _) (i4.trans he3)
  have hgc:gcL (ycL (pre ++ [x]))=Nat.gcd (gcL (ycL pre)) x.2.natAbs:=by
   rw [show ycL (pre ++ [x])=ycL pre ++ [(x.2,x.1.m)] by simp [ycL],qqL]
  have HN:Hid (CnI (fun g=>Mx M w.heap.size (w.heap.size+1) g∨g=G) w1 w2 G (norm l) (pre ++ [x]) ((w3.setCell ⟨G,0,none⟩ (.bool gb)).setCell ⟨G,1,none⟩ (.slice ga gn gp))):=
   ⟨⟨gb,ga,gn,gp⟩,hb3.setI2 _ _,by rw [hgc];exact hg.kp hkp,by rw [hgc];exact Nat.le_trans (qmv _ _) (by omega),hext,Nat.le_trans i5 (Nat.le_trans he3.size hkp.1)⟩
  have HKF:Hid (KeepsFrom w2.heap.size W ((w3.setCell ⟨G,0,none⟩ (.bool gb)).setCell ⟨G,1,none⟩ (.slice ga gn gp))):=by
   refine ⟨Nat.le_trans he3.size hkp.1,fun k o hk ho hno=>?_⟩
   have hkG:k≠G:=by omega
   rw [Below.heap_setCell _ ⟨G,1,none⟩ _ k hkG,Below.heap_setCell _ ⟨G,0,none⟩ _ k hkG,he3.heap (Array.getElem?_eq_some_iff.1 ho).1];exact ho
  have HKQ:Hid (Kq (fun g=>Mx M w.heap.size (w.heap.size+1) g∨g=G) w2.heap.size W ((w3.setCell ⟨G,0,none⟩ (.bool gb)).setCell ⟨G,1,none⟩ (.slice ga gn gp))):=
   ((Kq.of_ext he3 i5).set (.inr rfl) _).set (.inr rfl) _
  simp only [arr] at q0 q1;clear hg hb3 hkp hext hgc he3 i1 i2 c0 c1 c2 c3 hlive hBm CTR
  gi_wp2
  exact ⟨HKF.out,HKQ.out,HN.out⟩
 case done=>
  rintro D ys W hD hys ⟨x0,i1,i2,i3,i4,i5⟩ hK;have c0:=i1.cell (i:=0) (by omega);have c1:=i1.cell (i:=1) (by omega);simp only [arr] at c0 c1;have g0:=i1.lt;have hE1W:=HE1.out.trans i4;obtain ⟨⟨q0,q1,f0,f1⟩,⟨r0,r1⟩,hkp,hext⟩:=qf1 (M':=fun g=>Mx M w.heap.size (w.heap.size+1) g∨g=G) (w:=w) (.bool x0.b) (.slice x0.a x0.n x0.p) (HB0.out.ext hE1W) (.inl (Mx.at (by omega))) (Nat.le_refl _) (HE0.out.trans hE1W);simp only [arr] at q0 q1;go_wp2
  have hne:D≠w.heap.size:=by omega
  have hK':((W.setCell ⟨w.heap.size,0,none⟩ (.bool x0.b)).setCell ⟨w.heap.size,1,none⟩ (.slice x0.a x0.n x0.p)).heap[D]? = some (.deferred (some [])):=by
   rw [Below.heap_setCell _ ⟨w.heap.size,1,none⟩ _ D hne,Below.heap_setCell _ ⟨w.heap.size,0,none⟩ _ D hne];exact hK
  have hFI:=(i2.kp hkp);rw [hys] at hFI;generalize hWF:(W.setCell ⟨w.heap.size,0,none⟩ (.bool x0.b)).setCell ⟨w.heap.size,1,none⟩ (.slice x0.a x0.n x0.p)=WF at *;have hgr:=grownBy_putObj' WF D (.deferred none)
  have s0:(WF.putObj D (.deferred none)).cell? ⟨w.heap.size,0,none⟩=some (.bool x0.b):=by rw [World.cell?_of_block (w:=WF) (World.putObj_heap_other (fun e=>hne e.symm))];exact r0
  have s1:(WF.putObj D (.deferred none)).cell? ⟨w.heap.size,1,none⟩=some (.slice x0.a x0.n x0.p):=by rw [World.cell?_of_block (w:=WF) (World.putObj_heap_other (fun e=>hne e.symm))];exact r1
  refine ⟨by simp,.inl ⟨_,_,rfl,run_takeDeferred hK',?_⟩⟩;refine ⟨.agg #[.bool x0.b,.slice x0.a x0.n x0.p],by simp [results,Tryz.results151,go_sem,s0,s1],?_⟩;exact ⟨_,_,_,_,rfl,(hFI.grown hgr (fun r e=>by cases e;exact ⟨_,hK',rfl⟩)).more (fun g hg=>.inl (.inl (.inl hg))),hext.grown hgr (fun k hk=>by cases hk;have:=HE0.out.size;omega)⟩
end Go.Proofs.YtmcfpnmoklnhoaaGreat

namespace Go.Proofs.YtmcfpnmoklnhoaaGreat
open Go.RowKit

section
variable {P:Program} {ops:Array Oper} {Q:Exit->Act->World->Prop} {md:Region.Mode} {S:World->Prop} {last:Nat}
def qdG (P:Program) (md:Region.Mode) (ops:Array Oper) (Q:Exit->Act->World->Prop) (S:World->Prop) (last:Nat):Nat->Array Bool->Act->World->Prop
 | 0,listed,a,w=>Region.ready md ops listed = []/\Q .normal a w
 | fuel+1,listed,a,w=>
  (Region.ready md ops listed = []->Q .normal a w) /\
  ∀ i ∈ Region.ready md ops listed,wpOp P ops Q i (fun a' w'=>(i≠last->listed.getD last true=false->S w')/\qdG P md ops Q S last fuel (listed.setIfInBounds i true) a' w') a w
theorem qg8 : ∀ (fuel:Nat) (listed:Array Bool) (a:Act) (w:World),qdG P md ops Q S last fuel listed a w->wpAny P md ops Q fuel listed a w
 | 0,_,_,_,h=>h
 | fuel+1,_,_,_,h=>⟨h.1,fun i hi=>wpOp_mono (fun a' w' h'=>qg8 fuel _ a' w' h'.2) (h.2 i hi)⟩
theorem qfy {i : Nat} {oi : Oper} {v : Value} {S' : World -> Prop} (hi : ops[i]? = some oi) (hsel : ∀ (j : Nat) (o : Oper) cs b, ops[j]? = some o -> o.op ≠ .select cs b)
  (hQ : ∀ c a w,Q (.panic c) (a.put oi.dst v) w->Q (.panic c) a w) (hil:i≠last) (hw:(∀ w,S' w)∨((∀ w,S w->S' w)/\qjH md ops last i=true)) :
  ∀ (fuel:Nat) (listed:Array Bool) (a:Act) (w:World),
   (∀ j oj,ops[j]? = some oj->j≠i->listed.getD j true=false->(∀ e ∈ oj.after,Region.binds md e=true->e.on≠i)->oi.apart ops oj=true) ->
   i ∈ Region.ready md ops listed->YieldsIf P ops S' oi v a->((∀ w,S' w)∨listed.getD last true=false)->(listed.getD last true=false->S w) ->
   qdG P md ops Q S last fuel (listed.setIfInBounds i true) (a.put oi.dst v) w->qdG P md ops Q S last (fuel+1) listed a w:=by
 intro fuel
 induction fuel with
 | zero=>
  intro listed a w _ hr hy hno hS H;have hS':S' w:=hw.elim (fun h=>h w) (fun h=>hno.elim (fun k=>k w) (fun k=>h.1 w (hS k)));refine ⟨fun h=>(by rw [h] at hr;cases hr),fun j hj=>?_⟩
  by_cases hji:j=i
  ·subst hji;exact hy.wpOp hi hS' ⟨fun _ hl=>hS hl,H⟩
  ·have:=ready_mono hj hji;rw [H.1] at this;cases this
 | succ fuel ih=>
  intro listed a w hfree hr hy hno hS H;have hS':S' w:=hw.elim (fun h=>h w) (fun h=>hno.elim (fun k=>k w) (fun k=>h.1 w (hS k)));refine ⟨fun h=>(by rw [h] at hr;cases hr),fun j hj=>?_⟩
  by_cases hji:j=i
  ·subst hji;exact hy.wpOp hi hS' ⟨fun _ hl=>hS hl,H⟩
  ·have h1:=H.2 j (ready_mono hj hji);obtain ⟨hjun,oj,hoj,hall⟩:=mem_ready.1 hj
   have hnot : ∀ e ∈ oj.after,Region.binds md e=true->e.on≠i:=fun e he hb heq=>by
    have h1:=hall e he hb;have h0:=(mem_ready.1 hr).1;rw [heq] at h1;rcases Nat.lt_or_ge i listed.size with h' | h'
    ·simp [h'] at h0 h1;rw [h0] at h1;cases h1
    ·simp [Array.getElem?_eq_none h'] at h1
   have h2:=wpOp_putIf hoj (hfree j oj hoj hji hjun hnot) (fun cs b=>hsel i oi cs b hi) (fun cs b=>hsel j oj cs b hoj) hQ hy h1
   have hfree' : ∀ k ok, ops[k]? = some ok -> k ≠ i -> (listed.setIfInBounds j true).getD k true = false ->
     (∀ e ∈ ok.after,Region.binds md e=true->e.on≠i)->oi.apart ops ok=true:=fun k ok hk hki hun hno=>by
    refine hfree k ok hk hki ?_ hno
    by_cases hjk:j=k
    ·subst hjk;exact hjun
    ·rw [getD_set_ne true hjk] at hun;exact hun
   refine wpOp_mono (fun a' w' h3=>⟨fun hjl hl=>h3.2.1 hjl (by rw [getD_set_ne true hil];exact hl),ih (listed.setIfInBounds j true) a' w' hfree' (ready_mono hr (Ne.symm hji)) h3.1 ?_ ?_ ?_⟩) h2
   ·rcases hno with h | h
    ·exact .inl h
    ·rcases hw with k | ⟨_,k⟩
     ·exact .inl k
     ·refine .inr ?_;have hjl:j≠last:=fun e=>qiX k hr (e ▸ hj);rw [getD_set_ne true hjl];exact h
   ·intro hl
    by_cases hjl:j=last
    ·exfalso;subst hjl;rcases Nat.lt_or_ge j listed.size with h' | h'
     ·simp [h'] at hl
     ·simp [Array.getElem?_eq_none h'] at hl
    ·rw [getD_set_ne true hjl] at hl;exact h3.2.1 hjl (by rw [getD_set_ne true hil];exact hl)
   ·rw [Array.setIfInBounds_comm _ _ hji];exact h3.2.2
theorem qbz (i : Nat) {oi : Oper} {v : Value} {fuel : Nat} {listed : Array Bool} {a : Act} {w : World}
  (hs:Region.noSelect ops=true) (hf:Region.free md ops listed i=true) (hr:(Region.ready md ops listed).contains i=true) (hl:(qjH md ops last i && !(listed.getD last true) && i != last)=true) (hS:S w)
  (hi:ops[i]? = some oi) (hwd:Region.wanted oi (yielded ops a.tmps)=true) (hy : ∀ w,S w->(execOp a.eval oi).run P w = .ok (.value v) w) (hQ : ∀ c a w,Q (.panic c) (a.put oi.dst v) w->Q (.panic c) a w)
  (h:qdG P md ops Q S last fuel (listed.setIfInBounds i true) (a.put oi.dst v) w):qdG P md ops Q S last (fuel+1) listed a w:=by
 simp only [Bool.and_eq_true,bne_iff_ne,ne_eq,Bool.not_eq_true'] at hl;exact qfy (S':=S) hi (Region.noSelect_spec hs) hQ hl.2 (.inr ⟨fun _ h=>h,hl.1.1⟩) fuel listed a w (Region.free_spec hi hf) (by simpa using hr) (.inl ⟨hwd,hy⟩) (.inr hl.1.2) (fun _=>hS) h
theorem qcD (i : Nat) {oi : Oper} {v : Value} {fuel : Nat} {listed : Array Bool} {a : Act} {w : World}
  (hs:Region.noSelect ops=true) (hf:Region.free md ops listed i=true) (hr:(Region.ready md ops listed).contains i=true) (hl:(i != last)=true) (hS:S w)
  (hi:ops[i]? = some oi) (hwd:Region.wanted oi (yielded ops a.tmps)=true) (hy : ∀ w,(execOp a.eval oi).run P w = .ok (.value v) w) (hQ : ∀ c a w,Q (.panic c) (a.put oi.dst v) w->Q (.panic c) a w)
  (h:qdG P md ops Q S last fuel (listed.setIfInBounds i true) (a.put oi.dst v) w):qdG P md ops Q S last (fuel+1) listed a w:=
 qfy (S':=fun _=>True) hi (Region.noSelect_spec hs) hQ (by simpa using hl) (.inl fun _=>trivial) fuel listed a w (Region.free_spec hi hf) (by simpa using hr) (.inl ⟨hwd,fun w _=>hy w⟩) (.inl fun _=>trivial) (fun _=>hS) h
theorem qha (i : Nat) {o : Oper} {fuel : Nat} {listed : Array Bool} {a : Act} {w : World} (hr : Region.ready md ops listed = [i]) (ho : ops[i]? = some o)
  (h : ∀ K':Act->World->Prop,Shut (∀ a w,(i≠last->listed.getD last true=false->S w)->qdG P md ops Q S last fuel (listed.setIfInBounds i true) a w->K' a w)->if Region.wanted o (yielded ops a.tmps)=true then Oper.wp P o a w K' Q else K' (a.put o.dst undef) w):qdG P md ops Q S last (fuel+1) listed a w:=by
 refine ⟨fun h0=>(by rw [h0] at hr;cases hr),fun j hj=>?_⟩;rw [hr] at hj;simp only [List.mem_singleton] at hj;subst hj;exact wpOp_step ho fun K' hK=>h K' fun a w h1 h2=>hK a w ⟨h1,h2⟩
theorem qjF {listed : Array Bool} {a : Act} {w : World} (hr : Region.ready md ops listed = []) (h : Q .normal a w) :
  ∀ fuel,qdG P md ops Q S last fuel listed a w
 | 0=>⟨hr,h⟩
 | _+1=>⟨fun _=>h,by rw [hr];simp⟩
theorem qjE (S : World -> Prop) (last : Nat) {id : Nat} {a : Act} {w : World} (hm : P.follows .mixedOrders = true) (hS : S w.drew)
  (h:S w.drew->qdG P .any ops Q S last ops.size (Array.replicate ops.size false) a w.drew):(Code.region id ops true).wp P Q a w:=
 wp_region_any hm (qg8 _ _ _ _ (h hS))
end


def qdO:List Tm->Int
 | []=>1
 | t :: l=>if t.1<0 then -((gcL (t :: l):Nat):Int) else ((gcL (t :: l):Nat):Int)
def snorm (l:List Tm):List Tm:=(norm l).map fun t=>(t.1.tdiv (qdO (norm l)),t.2)
theorem qnx {L:List Tm} {n:Nat} {f:Nat->Tm} (h:L=(List.range n).map f) (hn:n≠0):qdO L=if (f 0).1<0 then -((gcL L:Nat):Int) else ((gcL L:Nat):Int):=by
 obtain ⟨k,rfl⟩ : ∃ k,n=k+1:=⟨n - 1,by omega⟩;rw [List.range_succ_eq_map,List.map_cons] at h;subst h;rfl
theorem qty (l:List Tm) : ∀ a:Nat,(l.foldl (fun g t=>Nat.gcd g t.1.natAbs) a ∣ a) /\ ∀ t ∈ l,l.foldl (fun g t=>Nat.gcd g t.1.natAbs) a ∣ t.1.natAbs:=by
 induction l with
 | nil=>intro a;exact ⟨Nat.dvd_refl _,fun t ht=>by cases ht⟩
 | cons s l ih=>
  intro a;obtain ⟨h1,h2⟩:=ih (Nat.gcd a s.1.natAbs);refine ⟨Nat.dvd_trans h1 (Nat.gcd_dvd_left _ _),fun t ht=>?_⟩;rcases List.mem_cons.1 ht with rfl | ht
  ·exact Nat.dvd_trans h1 (Nat.gcd_dvd_right _ _)
  ·exact h2 t ht
theorem qow {l:List Tm} {t:Tm} (h:t ∈ l):gcL l ∣ t.1.natAbs:=(qty l 0).2 t h
theorem qve {l:List Tm} {t:Tm} (h:t ∈ l) (h0:t.1≠0):gcL l≠0:=fun e=>by
 have:=qow h;rw [e,Nat.zero_dvd] at this;omega
theorem qez {l:List Tm} (h:l ≠ []):(qdO l).natAbs=gcL l:=by
 cases l with
 | nil=>exact absurd rfl h
 | cons t l=>
  by_cases h0:t.1<0
  ·rw [qdO,if_pos h0,Int.natAbs_neg,Int.natAbs_natCast]
  ·rw [qdO,if_neg h0,Int.natAbs_natCast]
theorem qfc {l:List Tm} (h:qaW l):qdO l≠0:=fun e=>by
 cases l with
 | nil=>cases e
 | cons t l=>
  have h1:=qez (l:=t :: l) (by simp);have h2:=qve (List.mem_cons_self (a:=t) (l:=l)) (h.2 t (List.mem_cons_self ..)).1;rw [e] at h1;exact h2 h1.symm
theorem qfU {l:List Tm} {t:Tm} (h:t ∈ l):qdO l ∣ t.1:=by
 rw [<- Int.natAbs_dvd_natAbs,qez (fun e=>by rw [e] at h;cases h)];exact qow h
def ScG (MM:Nat->Prop) (base:Nat) (w:World) (v:Value) (n:Nat) (z z':Nat->Int) (m:Nat->Mo) (k:Nat):Prop:=
 ∃ X:Nat->TE,Own w base 129 6 v n (tx X)/\(∀ i,i<n->qbs MM w (.bool (X i).b) (.slice (X i).a (X i).n (X i).p) (if i<k then z' i else z i)/\(X i).m=m i)
theorem ScG.step {MM : Nat -> Prop} {base : Nat} {w : World} {g cap : Nat} {n : Nat} {z z' : Nat -> Int} {m : Nat -> Mo} {k : Nat} {b2 : Bool} {a2 : Option Addr} {n2 p2 : Nat} (h : ScG MM base w (.slice (some ⟨g, 0, none⟩) n cap) n z z' m k) (hg : MM g) (hk : k < n) (hI : qbs MM w (.bool b2) (.slice a2 n2 p2) (z' k)) :
  ScG MM base ((w.setCell ⟨g,k*6,none⟩ (.bool b2)).setCell ⟨g,k*6+1,none⟩ (.slice a2 n2 p2)) (.slice (some ⟨g,0,none⟩) n cap) n z z' m (k+1)/\base<=g:=by
 obtain ⟨X,hO,hX⟩:=h;obtain ⟨g',cap',F,hv,hbg,hB,hnc,hcm,hF⟩:=hO.some (by omega);simp only [Value.slice.injEq,Option.some.injEq,Addr.mk.injEq,and_true,true_and] at hv;obtain ⟨rfl,rfl⟩:=hv
 have hkp:Kp MM w ((w.setCell ⟨g,k*6,none⟩ (.bool b2)).setCell ⟨g,k*6+1,none⟩ (.slice a2 n2 p2)):=
  (Kp.set _ w (p:=⟨g,k*6,none⟩) hg _).trans (Kp.set _ _ (p:=⟨g,k*6+1,none⟩) hg _)
 refine ⟨⟨fun i=>if i=k then ⟨b2,a2,n2,p2,m k⟩ else X i,.inr ⟨g,cap,_,rfl,hbg,(hB.set (k*6) _).set (k*6+1) _,hnc,hcm,fun j hj=>?_⟩,fun i hi=>?_⟩,hbg⟩
 ·have h1 : upd (upd F (k * 6) (.bool b2)) (k * 6 + 1) (.slice a2 n2 p2) j = upd (upd (tx X) (k * 6) (.bool b2)) (k * 6 + 1) (.slice a2 n2 p2) j := by
   unfold upd;rw [hF j hj]
  rw [h1];unfold tx;rw [qgj];unfold qb7 qhL
  by_cases hj6:j / 6=k
  ·simp [hj6,(hX k hk).2]
  ·simp [hj6]
 ·by_cases hik:i=k
  ·subst hik;simp only [if_true,Nat.lt_succ_self];exact ⟨hI.kp hkp,trivial⟩
  ·simp only [if_neg hik];obtain ⟨h1,h2⟩:=hX i hi;refine ⟨?_,h2⟩;have h3:=h1.kp hkp
   by_cases hlt:i<k
   ·rw [if_pos hlt] at h3;rw [if_pos (by omega)];exact h3
   ·rw [if_neg hlt] at h3;rw [if_neg (by omega)];exact h3
theorem ScG.kp {MM:Nat->Prop} {base:Nat} {w w':World} {g cap n:Nat} {z z':Nat->Int} {m:Nat->Mo} {k:Nat} (h:ScG MM base w (.slice (some ⟨g,0,none⟩) n cap) n z z' m k) (hk:Kp MM w w') (hg:w'.heap[g]? = w.heap[g]?):ScG MM base w' (.slice (some ⟨g,0,none⟩) n cap) n z z' m k:=by
 obtain ⟨X,hO,hX⟩:=h;exact ⟨X,hO.of_heap (fun q hq=>by simp only [Value.ownBlock,Option.some.injEq] at hq;subst hq;exact hg),fun i hi=>⟨(hX i hi).1.kp hk,(hX i hi).2⟩⟩
theorem ScG.ext {MM:Nat->Prop} {base:Nat} {w w':World} {g cap n:Nat} {z z':Nat->Int} {m:Nat->Mo} {k:Nat} (h:ScG MM base w (.slice (some ⟨g,0,none⟩) n cap) n z z' m k) (he:Ext w w'):ScG MM base w' (.slice (some ⟨g,0,none⟩) n cap) n z z' m k:=by
 obtain ⟨X,hO,hX⟩:=h;exact ⟨X,hO.ext he,fun i hi=>⟨(hX i hi).1.ext he,(hX i hi).2⟩⟩
theorem qpY (M : Nat -> Prop) (v : Value) (l : List Tm) (w : World) (hM : Mb M w) (hP : qbh M w v l) (hL : dlen (nrm l) + 1 <= 1099511627776) :
  Calls Tryz.prog 108 #[v] w fun e w'=>∃ u,e = .returned u/\qcA M w.heap.size w' u (snorm l)/\Ext w w':=by
 obtain ⟨va,vc,rfl⟩:=hP.form;have HP:=Lib.hid hP;clear hP
 go_enter Tryz.func108,Tryz.ntmps108
 go_wp2_with (fail);refine (qdN M _ l w hM HP.out (by omega)).mono ?_;rintro e w1 ⟨u,rfl,hu,he1⟩;obtain ⟨n,z,x,hO,hI,hl,hn,hown⟩:=id hu;obtain ⟨ua,uc,rfl⟩:=hO.form
 have hlen:(norm l).length=n:=by rw [hl];simp
 by_cases hn0:n=0
 ·have hnl:norm l = []:=List.length_eq_zero_iff.1 (by omega)
  have HF:Hid (qcA M w.heap.size w1 (.slice ua n uc) (snorm l)):=by
   show qcA _ _ _ _ _;unfold snorm;rw [hnl];rw [hnl] at hu;exact hu
  subst hn0;clear hu hO hI hl hown hnl hlen;go_wp2;go_ret;exact ⟨_,rfl,HF.out,he1⟩
 have hcan:=qan l
 have hMR:Mb (MR M (.slice ua n uc)) w1:=fun q hq=>by
  rcases hq with hq | hq
  ·exact hM.ext he1 q hq
  ·exact (hO.lt q hq).2
 have CTR:=Lib.hid (qmf (MR M (.slice ua n uc)) (.slice ua n uc) (norm l) w1 hMR hu.toW (by have:=qah (qcw l);omega));rw [qiY] at CTR
 have hnb:((n:Int) == 0)=false:=by simp;omega
 have HO:=Lib.hid hO;have HI:=Lib.hid hI;have HLE:=Lib.hid hl;have HOW:=Lib.hid hown;have HE1:=Lib.hid he1;have HMR:=Lib.hid hMR;have HCN:=Lib.hid hcan;have HLN:=Lib.hid hlen;clear hu hO hI hl hown he1 hcan hlen hMR;go_wp2_with (fail);refine CTR.out.mono ?_;rintro e w2 ⟨cb,ca,cn,cp,rfl,hc,he2⟩;clear CTR
 go_upto_region 5 with (fail)
 have hEa:Ext w2 (w2.alloc (.cells #[.bool cb,.slice ca cn cp] 30)):=(Ext.refl _).alloc _;have hBa:=Blk.of_arr w2 (iA ⟨cb,ca,cn,cp⟩) 30 2 rfl;obtain ⟨g,cap,F,hv,hbg,hB,hnc,hcm,hF⟩:=HO.out.some (by omega);simp only [Value.slice.injEq,true_and] at hv;obtain ⟨rfl,rfl⟩:=hv;have hgw:=Nat.lt_of_lt_of_le hB.lt he2.size;have hE12:=he2.trans hEa;have hc3:=(hc.more (M':=fun q=>MR M (.slice (some ⟨g,0,none⟩) n uc) q∨q=w2.heap.size) (fun q hq=>hq.imp id (fun e=>by omega))).ext hEa;obtain ⟨G,hG⟩ : ∃ G,G=w2.heap.size:=⟨_,rfl⟩;rw [<- hG] at hBa hgw;rw [<- hG];obtain ⟨W3,hW3⟩ : ∃ W3,W3=w2.alloc (.cells #[.bool cb,.slice ca cn cp] 30):=⟨_,rfl⟩;rw [<- hW3] at hBa hE12 hc3;rw [<- hG] at hc3;rw [<- hW3];have hB3:=hB.ext hE12;have x0:=hB3.cell (i:=0) (by omega);have x1:=hB3.cell (i:=1) (by omega);rw [hF _ (by omega)] at x0 x1;unfold tx at x0 x1;have x0':=qen (c0:=fun i=>Value.bool (x i).b) (c1:=fun i=>Value.slice (x i).a (x i).n (x i).p) (m:=fun i=>(x i).m) (i:=0);have x1':=qem (c0:=fun i=>Value.bool (x i).b) (c1:=fun i=>Value.slice (x i).a (x i).n (x i).p) (m:=fun i=>(x i).m) (i:=0);rw [Nat.zero_mul] at x0' x1';rw [Nat.zero_add] at x1';rw [x0'] at x0;rw [x1'] at x1;have hsg:=qnx HLE.out hn0;simp only at hsg;have hI0:=(HI.out 0 (by omega)).ext hE12;have hM3:Mb (fun q=>MR M (.slice (some ⟨g,0,none⟩) n uc) q∨q=G) W3:=fun q hq=>hq.elim (fun h=>HMR.out.ext hE12 q h) (fun h=>by rw [h];exact hBa.lt);have hst:ScG (fun q=>MR M (.slice (some ⟨g,0,none⟩) n uc) q∨q=G) w.heap.size W3 (.slice (some ⟨g,0,none⟩) n uc) n z (fun i=>(z i).tdiv (qdO (norm l))) (fun i=>(x i).m) 0:=⟨x,HO.out.ext hE12,fun i hi=>⟨((HI.out i hi).more (fun q hq=>hq.imp id (fun e=>by have:=he2.size;omega))).ext hE12,rfl⟩⟩
 have HST:=Lib.hid hst;have HE3:=Lib.hid (HE1.out.trans hE12);have HM3:=Lib.hid hM3;have HC3:=Lib.hid hc3;have HBA:=Lib.hid hBa;have HSG:=Lib.hid hsg;have CT2:=Lib.hid (qee _ _ (z 0) W3 hI0.toV)
 have hgG:w.heap.size<=G:=by omega
 have hgw3:g<W3.heap.size:=hB3.lt;unfold maxLen at hcm
 have hncu:0<n:=by omega
 clear hI0 hM3 hst hsg hc3 hBa hB hB3 x0' x1' hF hW3 hEa hc he2 hE12 hG;go_wp2_with (fail);refine CT2.out.mono ?_;rintro e w4 ⟨rfl,he4⟩;clear CT2 x0 x1
 by_cases hz0:z 0<0
 case' pos=>
  have hsg:(z 0).sign = -1:=Int.sign_eq_neg_one_of_neg hz0;rw [hsg]
  have HSS:Hid (qdO (norm l) = -((gcL (norm l):Nat):Int)):=by show _=_;rw [HSG.out,if_pos hz0]
  have CT3:=Lib.hid (qto cb ca cn cp (gcL (norm l):Nat) w4 (HM3.out.ext he4) (HC3.out.ext he4).toV);have hb4:=HBA.out.ext he4;have c0:=hb4.cell (i:=0) (by omega);have c1:=hb4.cell (i:=1) (by omega);simp only [arr] at c0 c1;have gl:=hb4.lt;clear hsg hz0 HSG hb4;go_wp2_with (fail);refine CT3.out.mono ?_;rintro e w5 ⟨nb,na,nn,np,rfl,hng,he5⟩;clear CT3 c0 c1 gl;have hb5:=(HBA.out.ext he4).ext he5;obtain ⟨⟨q0,q1,f0,f1⟩,_,hkp,hext⟩:=qf1 (M':=fun q=>MR M (.slice (some ⟨g,0,none⟩) n uc) q∨q=G) (w:=w) (.bool nb) (.slice na nn np) hb5 (.inr rfl) hgG ((HE3.out.trans he4).trans he5);have HBD:=Lib.hid (hb5.setI2 (.bool nb) (.slice na nn np));have HCD:=Lib.hid (hng.kp hkp);rw [<- HSS.out] at HCD;have HE5:=Lib.hid hext;have HST5:=Lib.hid (((HST.out.ext he4).ext he5).kp hkp (by rw [Below.heap_setCell _ ⟨G,1,none⟩ _ g (by show g≠G;omega),Below.heap_setCell _ ⟨G,0,none⟩ _ g (by show g≠G;omega)]));have HM5:Hid (Mb (fun q=>MR M (.slice (some ⟨g,0,none⟩) n uc) q∨q=G) ((w5.setCell ⟨G,0,none⟩ (.bool nb)).setCell ⟨G,1,none⟩ (.slice na nn np))):=((HM3.out.ext he4).ext he5).size hkp.1;simp only [arr] at q0 q1;clear hb5 hkp hext hng he4 he5 HSS HC3 HBA HE3 HST HM3 hgw3
  go_upto_region 7 with (fail)
  generalize (w5.setCell ⟨G,0,none⟩ (.bool nb)).setCell ⟨G,1,none⟩ (.slice na nn np)=W5 at *;clear q0 q1 f0 f1
 case' neg=>
  have HSS:Hid (qdO (norm l)=((gcL (norm l):Nat):Int)):=by show _=_;rw [HSG.out,if_neg hz0]
  have HBD:=Lib.hid (HBA.out.ext he4);have HCD:=Lib.hid (HC3.out.ext he4);rw [<- HSS.out] at HCD;have HE5:=Lib.hid (HE3.out.trans he4);have HST5:=Lib.hid (HST.out.ext he4);have HM5:=Lib.hid (HM3.out.ext he4);clear he4 HSS HC3 HBA HE3 HST HM3 hgw3 HSG
  go_upto_region 7 with (fail)
  clear hz0;generalize w4=W5 at *;generalize cb=nb at HBD HCD;generalize ca=na at HBD HCD;generalize cn=nn at HBD HCD;generalize cp=np at HBD HCD
 all_goals
  have HSN:=Lib.hid (qfc HCN.out);have c0:=HBD.out.cell (i:=0) (by omega);have c1:=HBD.out.cell (i:=1) (by omega);simp only [arr] at c0 c1;go_wp2
  go_loopw [24] (fun i wr=>∃ k:Nat,k<=n/\i = .int .i64 k/\ScG (fun q=>MR M (.slice (some ⟨g,0,none⟩) n uc) q∨q=G) w.heap.size wr (.slice (some ⟨g,0,none⟩) n uc) n z (fun i=>(z i).tdiv (qdO (norm l))) (fun i=>(x i).m) k/\wr.cell? ⟨G,0,none⟩=some (.bool nb)/\wr.cell? ⟨G,1,none⟩=some (.slice na nn np)/\Hid (qbs (fun q=>MR M (.slice (some ⟨g,0,none⟩) n uc) q∨q=G) wr (.bool nb) (.slice na nn np) (qdO (norm l)))/\Ext w wr/\W5.heap.size<=wr.heap.size) (fun i _=>n - (intOf i).toNat)
  case atStart=>exact ⟨0,Nat.zero_le _,rfl,HST5.out,by simpa using c0,by simpa using c1,HCD,HE5.out,Nat.le_refl _⟩
  case round=>
   clear HST5 c0 c1 HE5 HCD;obtain ⟨k,hk,rfl,hst,hc0,hc1,HCD,her,hsz⟩:=hrel
   by_cases hlt:k<n
   ·have hst':=hst;obtain ⟨X,hO,hX⟩:=hst';obtain ⟨g',cap',F',hv,hbg',hB,hnc',hcm',hF'⟩:=hO.some (by omega);simp only [Value.slice.injEq,Option.some.injEq,Addr.mk.injEq,and_true,true_and] at hv;obtain ⟨rfl,rfl⟩:=hv;have hIk:=(hX k hlt).1;rw [if_neg (by omega)] at hIk;have hx0:=hB.cell (i:=k*6) (by omega);have hx1:=hB.cell (i:=k*6+1) (by omega);rw [hF' _ (by omega)] at hx0 hx1;unfold tx at hx0 hx1;rw [qen] at hx0;rw [qem] at hx1;have HS:Hid (SSc G g k (.bool nb) (.slice na nn np) (.bool (X k).b) (.slice (X k).a (X k).n (X k).p) wr.drew):=SSc.ext ⟨hc0,hc1,hx0,hx1⟩ (Ext.refl _).drew;have hgw':=hB.lt;have HIK:=Lib.hid (hIk.ext (Ext.refl wr).drew);have HST:=Lib.hid (hst.ext (Ext.refl wr).drew);have HBd:=Lib.hid (hB.ext (Ext.refl wr).drew);have HCd:=Lib.hid (HCD.out.ext (Ext.refl wr).drew);have HEr:=Lib.hid (her.trans (Ext.refl wr).drew);have HMd:Hid (Mb (fun q=>MR M (.slice (some ⟨g,0,none⟩) n uc) q∨q=G) wr.drew):=HM5.out.size hsz
    have hmem:(z k,(x k).m) ∈ norm l:=by rw [HLE.out];exact List.mem_map.2 ⟨k,List.mem_range.2 hlt,rfl⟩
    have hzL:dlen (z k).natAbs+1<=1099511627776:=by
     have h1:=qah (Nat.le_trans (qj6 hmem) (qcw l));simp only at h1;omega
    have hdv:=qfU hmem;have HDV:Hid ((z k).tmod (qdO (norm l))=0):=Int.tmod_eq_zero_of_dvd hdv;have CTE:=fun W hm h1 h2=>Lib.hid (qf4 (M:=fun q=>MR M (.slice (some ⟨g,0,none⟩) n uc) q∨q=G) (X k).b (X k).a (X k).n (X k).p (z k) nb na nn np (qdO (norm l)) W hm h1 h2 HSN.out hzL);have hszd:W5.heap.size<=wr.drew.heap.size:=hsz;clear hX hF' hO hIk hst hc0 hc1 hx0 hx1 hB her hmem hdv hzL HCD hsz
    go_upto_region 10 with (fail)
    refine qjE (SSc G g k (.bool nb) (.slice na nn np) (.bool (X k).b) (.slice (X k).a (X k).n (X k).p)) 14 (by kernel_rfl) HS.out (fun hHeld=>?_);generalize wr.drew=wd at *;((refine qbz 0 (oi:=?_) (v:=?_) (by kernel_rfl) (by kernel_rfl) (by kernel_rfl) (by kernel_rfl) (by first | exact hSn | exact hHeld) ?_ ?_ ?_ ?_ ?_;rotate_left 2;(simp only [xgA,xgB,xgC];rfl);rfl;(intro wS hSw;obtain ⟨S1,S2,S3,S4⟩:=hSw;go_simp;try with_reducible rfl);(exact fun _ _ _ h=>h);(try simp only [Act.put,xgD,xgE,xgF]));(refine qbz 1 (oi:=?_) (v:=?_) (by kernel_rfl) (by kernel_rfl) (by kernel_rfl) (by kernel_rfl) (by first | exact hSn | exact hHeld) ?_ ?_ ?_ ?_ ?_;rotate_left 2;(simp only [xgA,xgB,xgC];rfl);rfl;(intro wS hSw;obtain ⟨S1,S2,S3,S4⟩:=hSw;go_simp;try with_reducible rfl);(exact fun _ _ _ h=>h);(try simp only [Act.put,xgD,xgE,xgF]));(refine qbz 2 (oi:=?_) (v:=?_) (by kernel_rfl) (by kernel_rfl) (by kernel_rfl) (by kernel_rfl) (by first | exact hSn | exact hHeld) ?_ ?_ ?_ ?_ ?_;rotate_left 2;(simp only [xgA,xgB,xgC];rfl);rfl;(intro wS hSw;obtain ⟨S1,S2,S3,S4⟩:=hSw;go_simp;try with_reducible rfl);(exact fun _ _ _ h=>h);(try simp only [Act.put,xgD,xgE,xgF]));(refine qbz 3 (oi:=?_) (v:=?_) (by kernel_rfl) (by kernel_rfl) (by kernel_rfl) (by kernel_rfl) (by first | exact hSn | exact hHeld) ?_ ?_ ?_ ?_ ?_;rotate_left 2;(simp only [xgA,xgB,xgC];rfl);rfl;(intro wS hSw;obtain ⟨S1,S2,S3,S4⟩:=hSw;go_simp;try with_reducible rfl);(exact fun _ _ _ h=>h);(try simp only [Act.put,xgD,xgE,xgF]));(refine qbz 4 (oi:=?_) (v:=?_) (by kernel_rfl) (by kernel_rfl) (by kernel_rfl) (by kernel_rfl) (by first | exact hSn | exact hHeld) ?_ ?_ ?_ ?_ ?_;rotate_left 2;(simp only [xgA,xgB,xgC];rfl);rfl;(intro wS hSw;obtain ⟨S1,S2,S3,S4⟩:=hSw;go_simp;try with_reducible rfl);(exact fun _ _ _ h=>h);(try simp only [Act.put,xgD,xgE,xgF]));(refine qbz 5 (oi:=?_) (v:=?_) (by kernel_rfl) (by kernel_rfl) (by kernel_rfl) (by kernel_rfl) (by first | exact hSn | exact hHeld) ?_ ?_ ?_ ?_ ?_;rotate_left 2;(simp only [xgA,xgB,xgC];rfl);rfl;(intro wS hSw;obtain ⟨S1,S2,S3,S4⟩:=hSw;go_simp;try with_reducible rfl);(exact fun _ _ _ h=>h);(try simp only [Act.put,xgD,xgE,xgF]));(refine qbz 6 (oi:=?_) (v:=?_) (by kernel_rfl) (by kernel_rfl) (by kernel_rfl) (by kernel_rfl) (by first | exact hSn | exact hHeld) ?_ ?_ ?_ ?_ ?_;rotate_left 2;(simp only [xgA,xgB,xgC];rfl);rfl;(intro wS hSw;obtain ⟨S1,S2,S3,S4⟩:=hSw;go_simp;try with_reducible rfl);(exact fun _ _ _ h=>h);(try simp only [Act.put,xgD,xgE,xgF]));(refine qbz 7 (oi:=?_) (v:=?_) (by kernel_rfl) (by kernel_rfl) (by kernel_rfl) (by kernel_rfl) (by first | exact hSn | exact hHeld) ?_ ?_ ?_ ?_ ?_;rotate_left 2;(simp only [xgA,xgB,xgC];rfl);rfl;(intro wS hSw;obtain ⟨S1,S2,S3,S4⟩:=hSw;go_simp;try with_reducible rfl);(exact fun _ _ _ h=>h);(try simp only [Act.put,xgD,xgE,xgF])))
    ((refine qha 8 (o:=?_) (by kernel_rfl) ?_ ?_;rotate_left 1;(simp only [xgA,xgB,xgC];rfl);intro K hK);go_simp;(refine ((CTE _ HMd.out HIK.out.toV HCd.out.toV).out).mono ?_);rintro e_ wz ⟨eb,ea,en,ep,er,rfl,hr0,hr9,he1⟩;go_wp2_with (fail);(try clear hSn);(have hSn:=hHeld.ext he1);(refine hK.out _ _ (fun _ _=>hSn) ?_);clear hK K;(try simp only [Act.put,xgD,xgE,xgF]));clear hr9;obtain ⟨rfl,hr⟩:=hr0 HDV.out;have hBz:=HBd.out.ext he1;have hf0:=hBz.frozen (k*6);have hf1:=hBz.frozen (k*6+1);obtain ⟨hs2,hbg2⟩:=(HST.out.ext he1).step (.inl (.inr rfl)) hlt hr
    have hne:G≠g:=by omega
    have hkp2:Kp (fun q=>MR M (.slice (some ⟨g,0,none⟩) n uc) q∨q=G) wz ((wz.setCell ⟨g,k*6,none⟩ (.bool eb)).setCell ⟨g,k*6+1,none⟩ (.slice ea en ep)):=
     (Kp.set _ wz (p:=⟨g,k*6,none⟩) (.inl (.inr rfl)) _).trans (Kp.set _ _ (p:=⟨g,k*6+1,none⟩) (.inl (.inr rfl)) _)
    have HCF:=Lib.hid ((HCd.out.ext he1).kp hkp2);have HS2:=Lib.hid hs2;have heF:Hid (Ext w ((wz.setCell ⟨g,k*6,none⟩ (.bool eb)).setCell ⟨g,k*6+1,none⟩ (.slice ea en ep))):=((HEr.out.trans he1).set (p:=⟨g,k*6,none⟩) hbg _).set (p:=⟨g,k*6+1,none⟩) hbg _;have hszF:Hid (W5.heap.size<=((wz.setCell ⟨g,k*6,none⟩ (.bool eb)).setCell ⟨g,k*6+1,none⟩ (.slice ea en ep)).heap.size):=Nat.le_trans hszd (Nat.le_trans he1.size hkp2.1);have HT:=Lib.hid hSn;((refine qcD 9 (oi:=?_) (v:=?_) (by kernel_rfl) (by kernel_rfl) (by kernel_rfl) (by kernel_rfl) (by first | exact hSn | exact hHeld) ?_ ?_ ?_ ?_ ?_;rotate_left 2;(simp only [xgA,xgB,xgC];rfl);rfl;(intro wS;go_simp;try with_reducible rfl);(exact fun _ _ _ h=>h);(try simp only [Act.put,xgD,xgE,xgF]));(refine qcD 10 (oi:=?_) (v:=?_) (by kernel_rfl) (by kernel_rfl) (by kernel_rfl) (by kernel_rfl) (by first | exact hSn | exact hHeld) ?_ ?_ ?_ ?_ ?_;rotate_left 2;(simp only [xgA,xgB,xgC];rfl);rfl;(intro wS;go_simp;try with_reducible rfl);(exact fun _ _ _ h=>h);(try simp only [Act.put,xgD,xgE,xgF]));(refine qcD 11 (oi:=?_) (v:=?_) (by kernel_rfl) (by kernel_rfl) (by kernel_rfl) (by kernel_rfl) (by first | exact hSn | exact hHeld) ?_ ?_ ?_ ?_ ?_;rotate_left 2;(simp only [xgA,xgB,xgC];rfl);rfl;(intro wS;go_simp;try with_reducible rfl);(exact fun _ _ _ h=>h);(try simp only [Act.put,xgD,xgE,xgF]));(refine qcD 12 (oi:=?_) (v:=?_) (by kernel_rfl) (by kernel_rfl) (by kernel_rfl) (by kernel_rfl) (by first | exact hSn | exact hHeld) ?_ ?_ ?_ ?_ ?_;rotate_left 2;(simp only [xgA,xgB,xgC];rfl);rfl;(intro wS;go_simp;try with_reducible rfl);(exact fun _ _ _ h=>h);(try simp only [Act.put,xgD,xgE,xgF]));(refine qcD 13 (oi:=?_) (v:=?_) (by kernel_rfl) (by kernel_rfl) (by kernel_rfl) (by kernel_rfl) (by first | exact hSn | exact hHeld) ?_ ?_ ?_ ?_ ?_;rotate_left 2;(simp only [xgA,xgB,xgC];rfl);rfl;(intro wS;go_simp;try with_reducible rfl);(exact fun _ _ _ h=>h);(try simp only [Act.put,xgD,xgE,xgF])))
    obtain ⟨T1,T2,T3,T4⟩:=HT.out;clear hs2 hkp2 hszd HCd HEr HST HIK HS hHeld hr0 HDV CTE;((refine qha 14 (o:=?_) (by kernel_rfl) ?_ ?_;rotate_left 1;(simp only [xgA,xgB,xgC];rfl);intro K hK);go_simp;(refine hK.out _ _ (fun h=>absurd rfl h) ?_);clear hK K;refine qjF (by kernel_rfl) ?_ _);have hq0:=ks hne (ks hne T1 (u:=.bool eb) (k:=k*6)) (u:=.slice ea en ep) (k:=k*6+1);have hq1:=ks hne (ks hne T2 (u:=.bool eb) (k:=k*6)) (u:=.slice ea en ep) (k:=k*6+1);clear hBz T1 T2 T3 T4 hf0 hf1 hr he1 HT;go_wp2
    go_roundw
    case rel=>exact ⟨k+1,by omega,by go_num,HS2.out,hq0,hq1,HCF,heF.out,hszF.out⟩
    case measure=>simp [intOf];omega
   ·have hkn:k=n:=by omega
    subst hkn
    have HF:Hid (qcA M w.heap.size wr (.slice (some ⟨g,0,none⟩) k uc) (snorm l)):=by
     obtain ⟨X,hO,hX⟩:=hst;refine ⟨k,fun i=>(z i).tdiv (qdO (norm l)),X,hO,fun i hi=>by have h1:=(hX i hi).1;rw [if_pos hi] at h1;exact h1.more (fun q hq=>.inl (.inl hq)),?_,hn,HOW.out⟩;unfold snorm;generalize hs:qdO (norm l)=sg;rw [HLE.out,List.map_map];apply List.map_congr_left;intro i hi
     have hi':i<k:=by simpa using hi
     show ((z i).tdiv sg,(x i).m)=((z i).tdiv sg,(X i).m);rw [(hX i hi').2]
    clear hst hc0 hc1 HCD;go_wp2;go_ret;exact ⟨_,rfl,HF.out,her⟩


theorem qgq (l:List Tm):qaW (snorm l):=by
 have hc:=qan l;unfold snorm;refine ⟨?_,fun t ht=>?_⟩
 ·rw [List.pairwise_map];exact hc.1
 ·obtain ⟨s,hs,rfl⟩:=List.mem_map.1 ht;refine ⟨fun e=>?_,(hc.2 s hs).2⟩;have h1:=Int.tdiv_mul_cancel (qfU hs);simp only at e;rw [e,Int.zero_mul] at h1;exact (hc.2 s hs).1 h1.symm
theorem qcc (l:List Tm):norm (snorm l)=snorm l:=qcv (qgq l)
theorem qhd (l:List Tm):snorm (norm l)=snorm l:=by unfold snorm;rw [qiY]
theorem Sim.snorm {l r:List Tm} (h:Sim l r):snorm l=snorm r:=by unfold Go.Proofs.YtmcfpnmoklnhoaaGreat.snorm;rw [h.norm]
theorem qmn (s:Int) (l:List Tm):nrm (l.map fun t=>(t.1.tdiv s,t.2))<=nrm l:=by
 induction l with
 | nil=>exact Nat.le_refl _
 | cons t l ih=>
  simp only [List.map_cons,nrm];have:=Int.natAbs_tdiv_le_natAbs t.1 s;omega
theorem qeO (l:List Tm):nrm (snorm l)<=nrm l:=Nat.le_trans (qmn _ _) (qcw l)
theorem qnr {l:List Tm} {t:Tm} (h:t ∈ snorm l) : ∃ s ∈ l,s.2=t.2:=by
 unfold snorm at h;obtain ⟨s,hs,rfl⟩:=List.mem_map.1 h;obtain ⟨s',hs',e⟩:=qfY hs;exact ⟨s',hs',e⟩
theorem qbQ (l:List Tm):smul (qdO (norm l)) (snorm l)=norm l:=by
 unfold smul snorm;rw [List.map_map]
 conv=>rhs;rw [<- List.map_id (norm l)]
 apply List.map_congr_left;intro t ht;have:=Int.tdiv_mul_cancel (qfU ht);rw [Int.mul_comm] at this;show (qdO (norm l)*t.1.tdiv (qdO (norm l)),t.2)=t;rw [this]
theorem qlk (M : Nat -> Prop) (d : Nat) (t : RT d) (x : PE) (w : World) (hM : Mb M w) (h : RR M w d t (.int .i64 x.lv) (.bool x.b) (.slice x.a x.n x.p) (.slice x.ka x.kn x.kp)) (hT : TB d t) (hL : dlen (nrm (qak d t)) + 1 <= 1099511627776) :
  Calls Tryz.prog 73 #[.agg (peA x)] w (qa4 M w 4 (snorm (qak d t))):=by
 obtain ⟨hE,⟨x0,x1,x2,x3⟩,hB,hM2⟩:=qum hM x;have h2:=RR.ext (RR.more (M':=Mx M w.heap.size (w.heap.size+2)) (Mx.more (Nat.le_refl _)) h) hE;have CTR:=Lib.hid (qwy _ d t x _ hM2 h2 hT);have HT:=Lib.hid hT;have HL:=Lib.hid hL;have HM:=Lib.hid hM2;have HB:=Lib.hid hB;have HE:=Lib.hid hE;clear h2 h hT hL hM2 hB hE hM
 go_enter Tryz.func73,Tryz.ntmps73
 go_wp2_with (fail);refine CTR.out.mono ?_;rintro e w1 ⟨u,rfl,hu,he1⟩;have CT2:=Lib.hid (qpY _ u (norm (qak d t)) w1 (HM.out.ext he1) hu.toV (by have:=qah (qcw (qak d t));have:=HL.out;omega));rw [qhd] at CT2;clear CTR x0 x1 x2 x3 hu;go_wp2_with (fail);refine CT2.out.mono ?_;rintro e w2 ⟨v,rfl,hv,he2⟩
 have CT3:=Lib.hid (qwz _ v (snorm (qak d t)) w2 ((HM.out.ext he1).ext he2) hv.toV (by have:=qah (qeO (qak d t));have:=HL.out;omega) (fun s hs k=>by
  obtain ⟨s',hs',e⟩:=qnr hs
  rw [<- e];exact HT.out.2.2.2 s' hs' k))
 rw [qcc] at CT3;clear CT2 hv;go_wp2_with (fail);refine CT3.out.mono ?_;rintro e w3 ⟨z,rfl,hz,he3⟩;obtain ⟨⟨q0,q1,q2,q3⟩,⟨f0,f1,f2,f3⟩,⟨r0,r1,r2,r3⟩,HF⟩:=qcu (M:=M) (w:=w) (((HB.out.ext he1).ext he2).ext he3) (Mx.at (by omega)) (by omega) (((HE.out.trans he1).trans he2).trans he3) hz Mx.sub;clear CT3 hz he1 he2 he3;go_wp2;exact bodyPost_ret (v:=.agg (peA z)) (by simp [results,Tryz.results73,go_sem,r0,r1,r2,r3]) rfl HF.out
end Go.Proofs.YtmcfpnmoklnhoaaGreat
