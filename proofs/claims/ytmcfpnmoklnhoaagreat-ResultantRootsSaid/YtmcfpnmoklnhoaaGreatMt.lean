/- The level of a canonical polynomial is that of its monomials. The law RecpolyOf returns true at every input, without a panic, and leaves its arguments as they were; no conditions. sparse: IsZero, Const; recpoly.Constant; cylinderref20: Valid, CompareMono. cylinderref20: CompareMono, Canonical. cylinderref20.Canonical at canonical polynomials. recpoly.Constant. The law RecpolyTo returns true at every input, without a panic, and leaves its arguments as they were; no conditions. -/
import Derived.Test.YtmcfpnmoklnhoaaGreatMn
import Derived.Test.YtmcfpnmoklnhoaaGreatMr
import Derived.Test.YtmcfpnmoklnhoaaGreatMi
set_option linter.unusedVariables false
set_option maxRecDepth 100000
set_option maxHeartbeats 400000000
set_option linter.unusedSimpArgs false

namespace Go.Proofs.YtmcfpnmoklnhoaaGreat
open Go.RowKit

theorem qrm {d:Nat} {t:RT (d+1)} (h:qaM (d+1) t=true) (ho:okT (d+1) t) (hl:t.1≠0) : ∃ m,qab (qaj (d+1) t) m≠0/\0<m.get t.1.toNat:=by
 obtain ⟨g1,g2,g3,g4,g5,g6⟩:=qbe h hl;rw [qaO g1.1 g1.2];have hlow : ∀ i,i<t.2.2.1->Low (t.1.toNat - 1) (qaj d (t.2.2.2 i)):=fun i hi=>qbE h hl i hi;obtain ⟨m,hm⟩:=can_zero _ _ (g5 (t.2.2.1 - 1) (by omega)).2 (ho.2 _ (by omega)) g6;have hm0:m.get t.1.toNat=0:=Classical.byContradiction fun hc=>hm ((hlow _ (by omega)).coef (k:=t.1.toNat) (by omega) (by omega) hc);refine ⟨Mo.add m (xp t.1.toNat ((t.2.2.1 - 1:Nat):Int)),?_,?_⟩
 ·rw [qdX (by omega) (by omega) hlow _ (by omega) m hm0];exact hm
 ·rw [qas,qat _ _ _ (by omega) (by omega),if_pos rfl,hm0];omega
end Go.Proofs.YtmcfpnmoklnhoaaGreat

namespace Go.Proofs.YtmcfpnmoklnhoaaGreat
open Go.ChangeShapes Go.WideShapes Go.ChangeAt Go.RowKit Go.Deep

theorem qkT {l:List Tm} {B:Nat} (h : ∀ s ∈ l,∀ k,s.2.get k<=(B:Int)):Deg B (norm l):=by
 intro m hm k;refine Classical.byContradiction fun hc=>hm (qaB fun s hs e=>?_);obtain ⟨t,ht,e2⟩:=qjv hs;have:=h t ht k;rw [e2,e] at this;omega
namespace recpolyOf
end recpolyOf
end Go.Proofs.YtmcfpnmoklnhoaaGreat

namespace Go.Proofs.YtmcfpnmoklnhoaaGreat
open Go.RowKit







def qs0 (M:Nat->Prop) (w:World) (l:List Tm) (e:Ending) (w':World):Prop:=
 ∃ (z:Int) (ok b:Bool) (a:Option Addr) (n p:Nat),e = .returned (.tuple #[.agg #[.bool b,.slice a n p],.bool ok])/\qbw M w' (.bool b) (.slice a n p) z/\(ok=true->Sim l [(z,Mo.zero)])/\(ok=false->z=0 /\ ∃ m k,qab l m≠0/\1<=k/\k<=4/\0<m.get k)/\Ext w w'
theorem CRx.notConst {M:Nat->Prop} {w:World} {x:PE} {l:List Tm} (h:CRx M w 4 x l) (h0:x.lv≠0) : ∃ m k,qab l m≠0/\1<=k/\k<=4/\0<m.get k:=by
 obtain ⟨t,h1,h2,h3,h4⟩:=h;obtain ⟨e0,_⟩:=h1.form;simp only [Value.int.injEq,true_and] at e0;have hlv:=qcP h2;obtain ⟨m,hm,hp⟩:=qrm h2 h1.ok (by rw [<- e0];exact h0);exact ⟨m,t.1.toNat,by rw [<- h4];exact hm,by rw [e0] at h0;omega,by omega,hp⟩
theorem CRx.const {M:Nat->Prop} {w:World} {x:PE} {l:List Tm} (h:CRx M w 4 x l) (h0:x.lv=0) : ∃ z,qbq M w (.bool x.b) (.slice x.a x.n x.p) z/\Sim l [(z,Mo.zero)]:=by
 obtain ⟨t,h1,h2,h3,h4⟩:=h;obtain ⟨e0,_⟩:=h1.form;simp only [Value.int.injEq,true_and] at e0
 have ht:t.1<=0:=by omega
 rw [qaE ht] at h4;have h5:qpN M w (.bool x.b) (.slice x.a x.n x.p) t.2.1:=h1.2.2.1;exact ⟨t.2.1.val,⟨t.2.1.neg,nv t.2.1.dg t.2.1.n,h5.1,⟨_,_,h5.2,rfl⟩,rfl⟩,h4.symm⟩
theorem qes {M : Nat -> Prop} {w W : World} {l : List Tm} {g : Nat} {ok b : Bool} {a : Option Addr} {n p : Nat} {v0 v1 v4 v5 v6 v7 v8 v9 v10 v11 v12 : Value} (t0 : W.cell? ⟨g, 0, none⟩ = some (.bool b)) (t1 : W.cell? ⟨g, 1, none⟩ = some (.slice a n p)) (h : qs0 M w l (.returned (.tuple #[.agg #[.bool b, .slice a n p], .bool ok])) W) :
  bodyPost Tryz.prog Tryz.f83 (qs0 M w l) Exit.ret { tmps:=#[v0,v1,.pointer (some ⟨g,0,none⟩),.bool ok,v4,v5,v6,v7,v8,v9,v10,v11,v12],defers:=[] } W:=
 bodyPost_ret (v:=.tuple #[.agg #[.bool b,.slice a n p],.bool ok]) (by simp [results,Tryz.results83,go_sem,t0,t1]) rfl h
theorem qfa (M:Nat->Prop) (x:PE) (l:List Tm) (w:World) (hM:Mb M w) (h:PI M w x l):Calls Tryz.prog 83 #[.agg (peA x)] w (qs0 M w l):=by
 have hE:Ext w ((w.alloc (.cells (peA x) 33)).alloc (.cells #[.bool false,.slice none 0 0] 30)):=((Ext.refl w).alloc _).alloc _;have hBx:=(Blk.of_arr w (peA x) 33 4 rfl).alloc (.cells #[.bool false,.slice none 0 0] 30);have hBr:=Blk.of_arr (w.alloc (.cells (peA x) 33)) #[.bool false,.slice none 0 0] 30 2 rfl;simp only [World.size_alloc] at hBr;have hM2:Mb (Mx M w.heap.size (w.heap.size+2)) ((w.alloc (.cells (peA x) 33)).alloc (.cells #[.bool false,.slice none 0 0] 30)):=Mx.mb hM (by simp;omega) (by simp);have h2:=(h.more (M':=Mx M w.heap.size (w.heap.size+2)) (Mx.more (Nat.le_refl _))).ext hE;have HI:=Lib.hid h2;clear h h2
 go_enter Tryz.func83,Tryz.ntmps83
 go_wp2_with (fail);refine (qct _ x l _ hM2 HI.out).mono ?_;rintro e w1 ⟨y,rfl,hy,he1⟩;have hE1:=hE.trans he1;have hB1:=hBx.ext he1;have hB2:=hBr.ext he1;have hM3:=hM2.ext he1;obtain ⟨⟨q0,q1,q2,q3⟩,⟨f0,f1,f2,f3⟩,⟨r0,r1,r2,r3⟩,hk,hf⟩:=qkL (M':=Mx M w.heap.size (w.heap.size+2)) (w:=w) (.int .i64 y.lv) (.bool y.b) (.slice y.a y.n y.p) (.slice y.ka y.kn y.kp) hB1 (Mx.at (by omega)) (Nat.le_refl _) hE1;have hB3:Blk (set4 w1 w.heap.size 0 (.int .i64 y.lv) (.bool y.b) (.slice y.a y.n y.p) (.slice y.ka y.kn y.kp)) (w.heap.size+1) 30 2 (arr #[.bool false,.slice none 0 0]):=hB2.of_heap (qag w1 w.heap.size 0 _ _ _ _ (w.heap.size+1) (by omega));have HY:=Lib.hid (hy.kp hk);have hM4:Mb (Mx M w.heap.size (w.heap.size+2)) (set4 w1 w.heap.size 0 (.int .i64 y.lv) (.bool y.b) (.slice y.a y.n y.p) (.slice y.ka y.kn y.kp)):=hM3.size hk.1;have hlt1:=hB1.lt;clear q0 q1 q2 q3;obtain ⟨q0,q1,q2,q3⟩:=hB1.p4;have hlt3:=hB3.lt;generalize hW:set4 w1 w.heap.size 0 (.int .i64 y.lv) (.bool y.b) (.slice y.a y.n y.p) (.slice y.ka y.kn y.kp)=W at r0 r1 r2 r3 hf hB3 HY hM4 hlt3;unfold set4 at hW;have HW:=Lib.hid hW;have HF4:=Lib.hid hf;have HM:=Lib.hid hM4;have HB:=Lib.hid hB3;clear hBx hBr hM2 he1 hE hB1 hB2 hM3 hy HI hk hf hM4 hB3 hE1 hW
 go_upto_region 2 with (fail)
 rw [HW.out];clear q0 q1 q2 q3 f0 f1 f2 f3 hlt1 HW
 by_cases h0:y.lv=0
 ·obtain ⟨z,hz,hs⟩:=HY.out.const h0;have HZ:=Lib.hid hz;have HS:=Lib.hid hs;clear hz hs HY;rw [h0] at r0;go_wp2_with (fail);refine (qde _ _ z _ HM.out HZ.out).mono ?_;rintro e w2 ⟨d0,d1,rfl,hc,he2⟩;obtain ⟨b2,a2,n2,p2,rfl,rfl⟩:=hc.form;obtain ⟨⟨s0,s1,g0,g1⟩,⟨t0,t1⟩,hk2,hf2⟩:=qgL (M':=Mx M w.heap.size (w.heap.size+2)) (w:=w) (.bool b2) (.slice a2 n2 p2) (HB.out.ext he2) (Mx.at (by omega)) (by omega) (HF4.out.trans he2);have HF:Hid (qs0 M w l (.returned (.tuple #[.agg #[.bool b2,.slice a2 n2 p2],.bool true])) ((w2.setCell ⟨w.heap.size+1,0,none⟩ (.bool b2)).setCell ⟨w.heap.size+1,1,none⟩ (.slice a2 n2 p2))):=⟨z,true,b2,a2,n2,p2,rfl,(hc.kp hk2).more Mx.less,fun _=>HS.out,fun h=>absurd h (by decide),hf2⟩;clear r0 r1 r2 r3 hc he2 hk2 hf2;simp only [arr] at s0 s1;go_wp2;exact qes t0 t1 HF.out
 ·obtain ⟨m,k,h1,h2,h3,h4⟩:=HY.out.notConst h0;have hz:=qhN (Mx M w.heap.size (w.heap.size+2)) W;obtain ⟨⟨s0,s1,g0,g1⟩,⟨t0,t1⟩,hk2,hf2⟩:=qgL (M':=Mx M w.heap.size (w.heap.size+2)) (w:=w) (.bool false) (.slice none 0 0) HB.out (Mx.at (by omega)) (by omega) HF4.out;have HF:Hid (qs0 M w l (.returned (.tuple #[.agg #[.bool false,.slice none 0 0],.bool false])) ((W.setCell ⟨w.heap.size+1,0,none⟩ (.bool false)).setCell ⟨w.heap.size+1,1,none⟩ (.slice none 0 0))):=⟨0,false,false,none,0,0,rfl,(hz.kp hk2).more Mx.less,fun h=>absurd h (by decide),fun _=>⟨rfl,m,k,h1,h2,h3,h4⟩,hf2⟩;clear hz HY hk2 hf2 h1 h2 h3 h4;simp only [arr] at s0 s1
  have l1:(y.lv == 0)=false:=by simp [h0]
  go_wp2;exact qes t0 t1 HF.out
end Go.Proofs.YtmcfpnmoklnhoaaGreat

namespace Go.Proofs.YtmcfpnmoklnhoaaGreat
open Go.ChangeShapes Go.WideShapes Go.ChangeAt Go.RowKit Go.Deep

namespace recpolyTo
end recpolyTo
end Go.Proofs.YtmcfpnmoklnhoaaGreat
