/- Mq -/
import Derived.Test.YtmcfpnmoklnhoaaGreatMa
import Derived.Test.YtmcfpnmoklnhoaaGreatRows
import Derived.WalkKit
import Derived.ProofKit
import Derived.OpenShut
import Derived.Below
import Derived.Carry
import Derived.ChangeSame
import Derived.Deep.Slices
import Derived.Deep.Fields
import Derived.Test.YtmcfpnmoklnhoaaGreatMi
import Derived.Deep.Strs
import Derived.RangeFuncNested
import Derived.RangeFuncBound
import Derived.RangeFuncCalls
import Derived.RangeFuncLeaves
import Derived.Shelf.Abstract
import Derived.Shelf.RegionOpen
import Derived.OwnWalkIn
import Derived.TacticsInMore
import Derived.LoopNIn
import Derived.LoopIn
set_option linter.unusedVariables false
set_option maxRecDepth 100000
set_option maxHeartbeats 400000000
set_option linter.unusedSimpArgs false
namespace Go.Proofs.YtmcfpnmoklnhoaaGreat
open Go.ChangeShapes Go.WideShapes Go.ChangeAt Go.RowKit Go.Deep
section
variable{H:Type}{enc:TypeId × Value->H}
theorem qiF{W W':World}(he:Ext W W'){sp:Nat->Bool}(hl:laidOutB Tryz.prog=true):∀{ts:List TypeId}{vs:List Value}{ds:List (DataW H)}{ps:List MemPlace},
 (∀t∈ts,Tryz.prog.readableRec t=true/\t<Tryz.prog.types.size)->DataW.TrodAll enc Tryz.prog W 0 (λ_=>true) true ts vs ds ps->(∀p∈ps,p.block<W.heap.size/\sp p.block=true)->DataW.TrodAll enc Tryz.prog W' 0 sp true ts vs ds ps
 |[],_,_,_,_,h,_=>by
  obtain⟨rfl,rfl,rfl⟩:=trodAll_nil h;rfl
 |t::ts,_,_,_,hr,h,hp=>by
  obtain⟨v,vs,d,ds,p,q,rfl,rfl,rfl,h1,h2⟩:=trodAll_cons h;have ht:=hr t (List.mem_cons_self ..);refine⟨p,q,WideElems.Trod_stays hl ht.1 ht.2 h1 (λx hx=>Below.same he (hp x (List.mem_append_left _ hx)).1) (λx hx=>(hp x (List.mem_append_left _ hx)).2),qiF he hl (λt' h'=>hr t' (List.mem_cons_of_mem _ h')) h2 (λx hx=>hp x (List.mem_append_right _ hx)),rfl⟩
theorem qAn{f:Func}{s:ChangeSpec}{apart fresh handsOn again:Bool}{W W':World}{args:Array Value}{ds:List (DataW H)}{before:List MemPlace}{tb:TypeId}
 (hl:laidOutB Tryz.prog=true) (hr:∀t∈f.params.toList,Tryz.prog.readableRec t=true/\t<Tryz.prog.types.size) (hv:s.vars=[]) (hs:s.fn H ds={results:=[.lit (.bool true)],args:=ds})
 (hR:f.resultTypes= #[tb]) (Xk:Tryz.prog.underlying tb=some .bool) (hW:DataW.Whole enc Tryz.prog f.params.toList s.vars apart W args.toList ds [] before) (he:Ext W W'):
 s.post enc Tryz.prog f apart fresh handsOn again W args (.bool true) W':=by
 have hlt:∀p∈before,p.block<W.heap.size:=λp hp=>hW.lt p hp;have hW':=hW;obtain⟨pa,pv,hA,hV,Od,hz,hn⟩:=hW;rw[hv]at hV;obtain rfl:pv=[]:=hV;rw[List.append_nil]at Od;subst Od
 have Rl:s.fn H (ds++[])={results:=[.lit (.bool true)],args:=ds}:=by rw[List.append_nil];exact hs
 have jG:∀sp:Nat->Bool,(∀p∈before,sp p.block=true)->DataW.TrodAll enc Tryz.prog W' 0 sp true f.params.toList args.toList ds before:=λsp Oj=>qiF he hl hr hA λp hp=>⟨hlt p hp,Oj p hp⟩
 have hres:∀(b:Nat)(sp:Nat->Bool)(hd:Bool),DataW.TrodAll enc Tryz.prog W' b sp hd f.resultTypes.toList ((Value.bool true).resultList f.resultTypes.size) [.lit (.bool true)] []:=by
  intro b sp hd;rw[hR];exact⟨[],[],shut_bool Xk true,rfl,rfl⟩
 refine⟨ds,[],before,[],before,[],hW',by rw[Rl];exact hres _ _ _,by rw[Rl];exact jG _ (λp hp=>by simpa using hlt p hp),by rw[Rl,hv];rfl,World.keptBut_mono (λp hp=>⟨hp,.inr (.inl hp)⟩) (Below.frame he (· ∈before)),λ_=>?_⟩;refine⟨ok_one hR rfl (okWide_bool_mk Xk true),_,[],([]++before)++[],⟨[]++before,[],trodAll_append (jG _ (λ_ _=>rfl)) (hres _ _ _),by rw[hv];rfl,rfl,?_,?_⟩,?_⟩
 ·intro b off hp
  have qI:MemPlace.cell b off∈before:=by simpa using hp
  rw[Below.frozen he (hlt _ qI)];exact hz b off qI
 ·intro ha;simpa using hn ha
 ·intro p hp _;simpa using hp
end
end Go.Proofs.YtmcfpnmoklnhoaaGreat
namespace Go.Proofs.YtmcfpnmoklnhoaaGreat
open Go.RowKit
end Go.Proofs.YtmcfpnmoklnhoaaGreat
namespace Go.Proofs.YtmcfpnmoklnhoaaGreat
open Go.ChangeShapes Go.WideShapes Go.ChangeAt Go.RowKit Go.Deep
namespace recpolyArithmetic
end recpolyArithmetic
end Go.Proofs.YtmcfpnmoklnhoaaGreat
namespace Go.Proofs.YtmcfpnmoklnhoaaGreat
open Go.RowKit
section
variable{P:Program}{ops:Array Oper}{Q:Exit->Act->World->Prop}{md:Region.Mode}{S:World->Prop}{y:Nat}
def TS(P:Program)(md:Region.Mode)(ops:Array Oper)(Q:Exit->Act->World->Prop)(S:World->Prop)(y:Nat):Nat->Array Bool->Act->World->Prop
 |0,listed,a,w=>Region.ready md ops listed=[]/\Q .normal a w
 |fuel+1,listed,a,w=>
  (Region.ready md ops listed=[]->Q .normal a w)/\
  ∀i∈Region.ready md ops listed,wpOpIn Fence.wide 2 P ops Q i (λa' w'=>(i≠y->listed.getD y false=false->S w')/\TS P md ops Q S y fuel (listed.setIfInBounds i true) a' w') a w
theorem qCG{o:Oper}{a:Act}{w:World}{K:Act->World->Prop}(h:Oper.wp P o a w K Q):Oper.wpIn Fence.wide 2 P o a w K Q:=by
 refine⟨λ_ _=>trivial,?_⟩;rw[Fence.wide_round,Oper.semAt_none];unfold Oper.wp at h;generalize (execOp a.eval o).run P w=r at*
 cases r with
 |ok x w'=>
  cases x with
  |enter f args=>exact⟨(λh=>by cases h),callsIn_wide.2 h⟩
  |row row args=>exact⟨(λh=>by cases h),λc cs _=>let ⟨v,w',r,s⟩:=h c cs;⟨v,w',r,stepsIn_wide.2 s⟩⟩
  |round l f tmps assign body=>exact False.elim h
  |_=>exact h
 |halt x w'=>cases x<;>exact h
theorem qF4(i:Nat){o:Oper}{fuel:Nat}{listed:Array Bool}{a:Act}{w:World}
 (h:∀K':Act->World->Prop,Shut (∀a w,(listed.getD y false=false->S w)->TS P md ops Q S y fuel (listed.setIfInBounds i true) a w->K' a w)->if Region.wanted o (yielded ops a.tmps)=true then Oper.wp P o a w K' Q else K' (a.put o.dst undef) w) (hr:Region.ready md ops listed=[i]:=by kernel_rfl) (hiy:(i==y)=false:=by kernel_rfl) (ho:ops[i]?=some o:=by simp only[fC,fD,fE];rfl):TS P md ops Q S y (fuel+1) listed a w:=by
 refine⟨λh0=>(by rw[h0]at hr;cases hr),λj hj=>?_⟩;rw[hr]at hj;simp only[List.mem_singleton]at hj;subst hj;refine wpOpIn_step ho λK' hK=>?_;have h0:=h K' λa w h1 h2=>hK a w ⟨λ_=>h1,h2⟩
 split
 ·rename_i hw;rw[ai hw]at h0;exact qCG h0
 ·rename_i hw;rw[ah hw]at h0;exact⟨λ_ _=>trivial,h0⟩
theorem qF5{o:Oper}{fuel:Nat}{listed:Array Bool}{a:Act}{w:World}
 (h:∀K':Act->World->Prop,Shut (∀a w,TS P md ops Q S y fuel (listed.setIfInBounds y true) a w->K' a w)->if Region.wanted o (yielded ops a.tmps)=true then Oper.wpIn Fence.wide 2 P o a w K' Q else(∀f,o.about P w a.eval=some f->Fence.wide.fn f)/\K' (a.put o.dst undef) w) (hr:Region.ready md ops listed=[y]:=by kernel_rfl) (ho:ops[y]?=some o:=by simp only[fC,fD,fE];rfl):TS P md ops Q S y (fuel+1) listed a w:=by
 refine⟨λh0=>(by rw[h0]at hr;cases hr),λj hj=>?_⟩;rw[hr]at hj;simp only[List.mem_singleton]at hj;subst hj;exact wpOpIn_step ho λK' hK=>h K' λa w h1=>hK a w ⟨λe=>absurd rfl e,h1⟩
end
def Kq(X:Nat->Prop)(n:Nat)(W W':World):Prop:=W.heap.size<=W'.heap.size/\∀b,b<n->¬X b->W'.heap[b]?=W.heap[b]?
theorem Kq.trans{X:Nat->Prop}{n:Nat}{A B C:World}(h:Kq X n A B)(k:Kq X n B C):Kq X n A C:=⟨aR h.1 k.1,λb hb hx=>(k.2 b hb hx).trans (h.2 b hb hx)⟩
attribute [local go_sem] Oper.semAt_some
end Go.Proofs.YtmcfpnmoklnhoaaGreat
namespace Go.Proofs.YtmcfpnmoklnhoaaGreat
open Go.RowKit
attribute [local go_sem] Oper.semAt_some
end Go.Proofs.YtmcfpnmoklnhoaaGreat
namespace Go.Proofs.YtmcfpnmoklnhoaaGreat
open Go.RowKit
end Go.Proofs.YtmcfpnmoklnhoaaGreat
namespace Go.Proofs.YtmcfpnmoklnhoaaGreat
open Go.ChangeShapes Go.WideShapes Go.ChangeAt Go.RowKit Go.Deep
theorem qs0(a:Addr):a.add 0=a:=by unfold Addr.add;simp
section
variable{H:Type}{enc:TypeId × Value->H}{W:World}
theorem qz1{fuel:Nat}{v:Value}{x:DataW H × List MemPlace}(h:DataW.trod enc Tryz.prog W 0 (λ_=>true) true fuel 28 [v]=some x):
 ∃a n cap,v=.slice a n cap/\n<=9223372036854775807/\(n<=1099511627776->∃d,eu M0 W (.slice a n cap) n d):=by
 rcases open_ints Tryz.underlying28 Tryz.underlying155 (by kernel_rfl) h with⟨h0,_⟩|⟨a,len,cap,zs,hcs,hb,hl,hm,hz,_,hc,hwf⟩
 ·simp only[List.cons.injEq,and_true]at h0;exact⟨none,0,0,h0,by omega,λ_=>⟨λ_=>0,eu.nil _ _⟩⟩
 ·simp only[List.cons.injEq,and_true]at hcs;refine⟨some a,len,cap,hcs,by unfold maxLen at hm;omega,λhL=>?_⟩;rw[ai rfl]at hz
  have hw:∀i,i<len->0<=zs.getD i 0/\zs.getD i 0<4294967296:=by
   intro i hi
   have hi':i<zs.length:=by omega
   have h1:=hwf (zs.getD i 0) (by rw[List.getD_eq_getElem?_getD,List.getElem?_eq_getElem hi'];simp);simp[Lit.wf,IntKind.min,IntKind.max,IntKind.signed,IntKind.bits]at h1
   have h2:zs.getD i 0=zs[i]?.getD 0:=by simp
   rw[h2];omega
  rcases Nat.eq_zero_or_pos len with h0|h0
  ·subst h0;exact⟨λ_=>0,hL,(by intro i hi;omega),.inl ⟨rfl,some a,cap,rfl,hm,λh=>by cases h⟩⟩
  ·refine⟨λi=>(zs.getD i 0).toNat,hL,(λi hi=>by have:=hw i hi;show(zs.getD i 0).toNat<4294967296;omega),.inr ?_⟩;have jY:=hc 0 (by omega);rw[qs0]at jY;have Oj:=World.cell?_spot jY;have KG:=oF _ _ jY;obtain⟨b,o,s⟩:=a;simp only at Oj KG;subst Oj;refine⟨b,o,cap,rfl,hl,hm,⟨KG,λh=>h⟩,λi hi=>?_⟩;have h3:=hc i (by omega);rw[GQ]at h3;rw[h3];have:=hw i hi;simp only[Option.some.injEq,Value.int.injEq,true_and];omega
theorem open_int{fuel:Nat}{v0 v1:Value}{x:DataW H × List MemPlace}(h:DataW.trod enc Tryz.prog W 0 (λ_=>true) true fuel 30 [v0,v1]=some x):
 ∃b a n cap,v0=.bool b/\v1=.slice a n cap/\n<=9223372036854775807/\(n<=1099511627776->∃d,eu M0 W (.slice a n cap) n d):=by
 obtain⟨y0,y1,q,_,_,e0,e1⟩:=trod_struct2 Tryz.underlying30 h;rw[show Tryz.prog.cellsOf 4=1 by kernel_rfl]at e0;rw[show Tryz.prog.cellsOf 28=1 by kernel_rfl]at e1;obtain⟨b,hb,_⟩:=DataW.trod_bool Tryz.underlying4 e0;simp at hb;obtain⟨a,n,cap,hv,hn,hd⟩:=qz1 e1;exact⟨b,a,n,cap,hb,hv,hn,hd⟩
end
end Go.Proofs.YtmcfpnmoklnhoaaGreat
namespace Go.Proofs.YtmcfpnmoklnhoaaGreat
open Go.RowKit
theorem qth{d:Nat}{t:RT (d+1)}(h:gM (d+1) t=true)(ho:BP (d+1) t)(hl:t.1≠0):∃m,aL (terms (d+1) t) m≠0/\0<m.get t.1.toNat:=by
 obtain⟨g1,g2,g3,g4,g5,g6⟩:=wJ h hl;rw[yn g1.1 g1.2];have dB:∀i,i<t.2.2.1->eH (t.1.toNat-1) (terms d (t.2.2.2 i)):=λi hi=>wW h hl i hi;obtain⟨m,hm⟩:=yO _ _ (g5 (t.2.2.1-1) (by omega)).2 (ho.2 _ (by omega)) g6;have rA:m.get t.1.toNat=0:=eF λhc=>hm ((dB _ (by omega)).vw (k:=t.1.toNat) (by omega) (by omega) hc);refine⟨Mo.add m (xp t.1.toNat ((t.2.2.1-1:Nat):Int)),?_,?_⟩
 ·rw[Qt (by omega) (by omega) dB _ (by omega) m rA];exact hm
 ·rw[iH,eQ _ _ _ (by omega) (by omega),ai rfl,rA];omega
end Go.Proofs.YtmcfpnmoklnhoaaGreat
namespace Go.Proofs.YtmcfpnmoklnhoaaGreat
open Go.ChangeShapes Go.WideShapes Go.ChangeAt Go.RowKit Go.Deep
theorem qt6{l:List Tm}{B:Nat}(h:∀s∈l,∀k,s.2.get k<=(B:Int)):bH B (norm l):=by
 intro m hm k;refine eF λhc=>hm (rQ λs hs e=>?_);obtain⟨t,ht,e2⟩:=qoP hs;have:=h t ht k;rw[e2,e]at this;omega
namespace recpolyOf
end recpolyOf
end Go.Proofs.YtmcfpnmoklnhoaaGreat
namespace Go.Proofs.YtmcfpnmoklnhoaaGreat
open Go.RowKit
def qtO(c:Int):List Tm:=if c=0 then[]else[(c,Mo.zero)]
def Qh(M:Nat->Prop)(w:World)(l:List Tm)(e:Ending)(w':World):Prop:=
 ∃(z:Int)(ok b:Bool)(a:Option Addr)(n p:Nat),e=.returned (.tuple #[.agg #[.bool b,.slice a n p],.bool ok])/\ek M w' (.bool b) (.slice a n p) z/\(ok=true->af l [(z,Mo.zero)])/\(ok=false->z=0/\∃m k,aL l m≠0/\1<=k/\k<=4/\0<m.get k)/\Ext w w'
theorem aN.qzD{M:Nat->Prop}{w:World}{x:PE}{l:List Tm}(h:aN M w 4 x l)(h0:x.lv≠0):∃m k,aL l m≠0/\1<=k/\k<=4/\0<m.get k:=by
 obtain⟨t,h1,h2,h3,h4⟩:=h;obtain⟨e0,_⟩:=h1.form;simp only[Value.int.injEq,true_and]at e0;have iJ:=ES h2;obtain⟨m,hm,hp⟩:=qth h2 h1.ok (by rw[<-e0];exact h0);exact⟨m,t.1.toNat,by rw[<-h4];exact hm,by rw[e0]at h0;omega,by omega,hp⟩
theorem aN.const{M:Nat->Prop}{w:World}{x:PE}{l:List Tm}(h:aN M w 4 x l)(h0:x.lv=0):∃z,dQ M w (.bool x.b) (.slice x.a x.n x.p) z/\af l [(z,Mo.zero)]:=by
 obtain⟨t,h1,h2,h3,h4⟩:=h;obtain⟨e0,_⟩:=h1.form;simp only[Value.int.injEq,true_and]at e0
 have ht:t.1<=0:=by omega
 rw[vV ht]at h4;have h5:wI M w (.bool x.b) (.slice x.a x.n x.p) t.2.1:=h1.2.2.1;exact⟨t.2.1.val,⟨t.2.1.neg,nv t.2.1.dg t.2.1.n,h5.1,⟨_,_,h5.2,rfl⟩,rfl⟩,h4.symm⟩
theorem qi3{M:Nat->Prop}{w W:World}{l:List Tm}{g:Nat}{ok b:Bool}{a:Option Addr}{n p:Nat}{v0 v1 v4 v5 v6 v7 v8 v9 v10 v11 v12:Value}(t0:W.cell? ⟨g,0,none⟩=some (.bool b))(t1:W.cell? ⟨g,1,none⟩=some (.slice a n p))(h:Qh M w l (.returned (.tuple #[.agg #[.bool b,.slice a n p],.bool ok])) W):
 bodyPost Tryz.prog Tryz.f83 (Qh M w l) Exit.ret {tmps:= #[v0,v1,.pointer (some ⟨g,0,none⟩),.bool ok,v4,v5,v6,v7,v8,v9,v10,v11,v12],defers:=[]} W:=
 bu (v:=.tuple #[.agg #[.bool b,.slice a n p],.bool ok]) (by simp[results,Tryz.results83,go_sem,t0,t1]) rfl h
theorem qpX(M:Nat->Prop)(x:PE)(l:List Tm)(w:World)(hM:Mb M w)(h:PI M w x l):Calls Tryz.prog 83 #[.agg (ak x)] w (Qh M w l):=by
 have hE:Ext w ((w.alloc (.cells (ak x) 33)).alloc (.cells #[.bool false,.slice none 0 0] 30)):=((aA w).alloc _).alloc _;have kM:=(aG.bq w (ak x) 33 4 rfl).alloc (.cells #[.bool false,.slice none 0 0] 30);have o8:=aG.bq (w.alloc (.cells (ak x) 33)) #[.bool false,.slice none 0 0] 30 2 rfl;simp only[World.size_alloc]at o8;have fu:Mb (Mx M w.heap.size (w.heap.size+2)) ((w.alloc (.cells (ak x) 33)).alloc (.cells #[.bool false,.slice none 0 0] 30)):=Mx.mb hM (by simp;omega) (by simp);have h2:=(h.more (M':=Mx M w.heap.size (w.heap.size+2)) (Mx.more (aI _))).ext hE;have HI:=ae h2;clear h h2
 go_enter Tryz.func83,Tryz.ntmps83
 go_wp2_with (fail);refine(yj _ x l _ fu HI.out).mono ?_;rintro e w1 ⟨y,rfl,hy,az⟩;have iN:=hE.trans az;have dm:=kM.ext az;have dJ:=o8.ext az;have jD:=fu.ext az;obtain⟨⟨q0,q1,q2,q3⟩,⟨f0,f1,f2,f3⟩,⟨r0,r1,r2,r3⟩,hk,hf⟩:=AR (M':=Mx M w.heap.size (w.heap.size+2)) (w:=w) (.int .i64 y.lv) (.bool y.b) (.slice y.a y.n y.p) (.slice y.ka y.kn y.kp) dm (Mx.at (by omega)) (aI _) iN;have jM:aG (aM w1 w.heap.size 0 (.int .i64 y.lv) (.bool y.b) (.slice y.a y.n y.p) (.slice y.ka y.kn y.kp)) (w.heap.size+1) 30 2 (arr #[.bool false,.slice none 0 0]):=dJ.of_heap (iI w1 w.heap.size 0 _ _ _ _ (w.heap.size+1) (by omega));have HY:=ae (hy.kp hk);have pU:Mb (Mx M w.heap.size (w.heap.size+2)) (aM w1 w.heap.size 0 (.int .i64 y.lv) (.bool y.b) (.slice y.a y.n y.p) (.slice y.ka y.kn y.kp)):=jD.size hk.1;have DW:=dm.lt;clear q0 q1 q2 q3;obtain⟨q0,q1,q2,q3⟩:=dm.p4;have zo:=jM.lt;generalize hW:aM w1 w.heap.size 0 (.int .i64 y.lv) (.bool y.b) (.slice y.a y.n y.p) (.slice y.ka y.kn y.kp)=W at r0 r1 r2 r3 hf jM HY pU zo;unfold aM at hW;have HW:=ae hW;have yu:=ae hf;have HM:=ae pU;have HB:=ae jM;clear kM o8 fu az hE dm dJ jD hy HI hk hf pU jM iN hW
 go_upto_region 2 with(fail)
 rw[HW.out];clear q0 q1 q2 q3 f0 f1 f2 f3 DW HW
 by_cases h0:y.lv=0
 ·obtain⟨z,hz,hs⟩:=HY.out.const h0;have HZ:=ae hz;have HS:=ae hs;clear hz hs HY;rw[h0]at r0;go_wp2_with (fail);refine(Ou _ _ z _ HM.out HZ.out).mono ?_;rintro e w2 ⟨d0,d1,rfl,hc,aJ⟩;obtain⟨b2,a2,n2,p2,rfl,rfl⟩:=hc.form;obtain⟨⟨s0,s1,g0,g1⟩,⟨t0,t1⟩,jf,iU⟩:=l6 (M':=Mx M w.heap.size (w.heap.size+2)) (w:=w) (.bool b2) (.slice a2 n2 p2) (HB.out.ext aJ) (Mx.at (by omega)) (by omega) (yu.out.trans aJ);have HF:Hid (Qh M w l (.returned (.tuple #[.agg #[.bool b2,.slice a2 n2 p2],.bool true])) ((w2.setCell ⟨w.heap.size+1,0,none⟩ (.bool b2)).setCell ⟨w.heap.size+1,1,none⟩ (.slice a2 n2 p2))):=⟨z,true,b2,a2,n2,p2,rfl,(hc.kp jf).more Mx.less,λ_=>HS.out,λh=>absurd h (by decide),iU⟩;clear r0 r1 r2 r3 hc aJ jf iU;simp only[arr]at s0 s1;go_wp2;exact qi3 t0 t1 HF.out
 ·obtain⟨m,k,h1,h2,h3,h4⟩:=HY.out.qzD h0;have hz:=qnT (Mx M w.heap.size (w.heap.size+2)) W;obtain⟨⟨s0,s1,g0,g1⟩,⟨t0,t1⟩,jf,iU⟩:=l6 (M':=Mx M w.heap.size (w.heap.size+2)) (w:=w) (.bool false) (.slice none 0 0) HB.out (Mx.at (by omega)) (by omega) yu.out;have HF:Hid (Qh M w l (.returned (.tuple #[.agg #[.bool false,.slice none 0 0],.bool false])) ((W.setCell ⟨w.heap.size+1,0,none⟩ (.bool false)).setCell ⟨w.heap.size+1,1,none⟩ (.slice none 0 0))):=⟨0,false,false,none,0,0,rfl,(hz.kp jf).more Mx.less,λh=>absurd h (by decide),λ_=>⟨rfl,m,k,h1,h2,h3,h4⟩,iU⟩;clear hz HY jf iU h1 h2 h3 h4;simp only[arr]at s0 s1
  have l1:(y.lv==0)=false:=by simp[h0]
  go_wp2;exact qi3 t0 t1 HF.out
end Go.Proofs.YtmcfpnmoklnhoaaGreat
namespace Go.Proofs.YtmcfpnmoklnhoaaGreat
open Go.ChangeShapes Go.WideShapes Go.ChangeAt Go.RowKit Go.Deep
namespace recpolyTo
end recpolyTo
end Go.Proofs.YtmcfpnmoklnhoaaGreat
