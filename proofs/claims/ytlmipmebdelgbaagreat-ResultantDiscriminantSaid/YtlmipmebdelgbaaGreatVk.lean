/- ResultantDiscriminant: the known formulas, plain. Regions with calls and up to three allocs in any order. ResultantDiscriminant: what its calls answer. ResultantDiscriminant: the walk. The law ResultantDiscriminant returns true at every input, without a panic, and leaves its arguments as they were; no conditions. -/
import Derived.Test.YtlmipmebdelgbaaGreatVe
import Derived.Test.YtlmipmebdelgbaaGreatDk
import Derived.Test.YtlmipmebdelgbaaGreatMq
set_option linter.unusedVariables false
set_option maxRecDepth 100000
set_option maxHeartbeats 400000000
set_option linter.unusedSimpArgs false

namespace Go.Proofs.YtlmipmebdelgbaaGreat
open Go.RowKit

def P2 (a b c:List Tm):Nat->List Tm:=fun i=>if i=0 then c else if i=1 then b else a
def P3 (b c:List Tm):Nat->List Tm:=fun i=>if i=0 then c else if i=1 then b else if i=2 then [(0,Mo.zero)] else [(1,Mo.zero)]
theorem deg_p4 {B:Nat} : ∀ (n:Nat) (P:Nat->List Tm),(∀ i,i<n->Deg B (P i)/\Fre 4 (P i))->n<=B+1->Deg B (poly 4 n P)
 | 0,_,_,_=>fun m hm=>absurd rfl hm
 | n+1,P,h,hn=>by
  rw [qaf];refine (deg_p4 n P (fun i hi=>h i (by omega)) (by omega)).append fun m hm k=>?_;rw [qaz] at hm;have h5:=(h n (by omega)).1 _ hm k;have h6:=(h n (by omega)).2 _ hm;rw [qbF,qas 4 _ _ (by decide) (by decide)] at h5 h6
  by_cases hk:k=4
  ·subst hk;rw [if_pos rfl] at h6;omega
  ·rw [if_neg hk] at h5;omega
theorem sz_p4 {n:Nat} {P:Nat->List Tm} (h : ∀ i,i<n->SmD 4 (P i)/\Fre 4 (P i)) (hn:n<=4):Sz 4 20 (poly 4 n P):=
 ⟨NN.poly fun i hi=>(h i hi).1.nn,deg_p4 n P (fun i hi=>⟨(h i hi).1.deg,(h i hi).2⟩) (by omega),by
  have h1:nrm (poly 4 n P)<=n*4294967296 ^ 5:=qh3 4 n P (4294967296 ^ 5) fun i hi=>Nat.le_of_lt ((qaj _ 5).1 (h i hi).1.dl)
  have h2:n*4294967296 ^ 5<4294967296 ^ 6:=by
   have:=Nat.mul_le_mul_right (4294967296 ^ 5) hn;omega
  exact Nat.le_trans ((qaj _ 6).2 (Nat.lt_of_le_of_lt h1 h2)) (show 6<=20 by decide)⟩
theorem dgr_p4 {n:Nat} {P:Nat->List Tm} (hn:1<=n) (h : ∀ i,Fre 4 (P i)) (hz : ¬ Sim (P (n - 1)) []):DgR 4 (poly 4 n P) (n - 1):=by
 have hk:=ckP (J:=4) (by decide) (by decide) h (n - 1) n;rw [if_pos (by omega)] at hk;refine ⟨fun m hm=>?_,?_⟩
 ·have:=fre_poly_deg (L:=4) (by decide) (by decide) (fun i _=>h i) hm;omega
 ·have h1 : ¬ Sim (ck 4 ((n - 1:Nat):Int) (poly 4 n P)) []:=fun hs=>hz (hk.symm.trans hs)
  by_cases h0:n - 1=0
  ·exact .inl h0
  ·refine .inr (Classical.byContradiction fun hc=>h1 fun m=>?_);rw [qaR (by decide) (by decide)]
   split
   ·rename_i h4;refine Classical.byContradiction fun hne=>hc ⟨_,hne,?_⟩;rw [qap,qas 4 4 _ (by decide) (by decide),if_pos rfl,h4];omega
   ·rfl
section
variable {a b c:List Tm} (ha:SmD 2 a) (hb:SmD 2 b) (hc:SmD 2 c) (fa:Fre 4 a) (fb:Fre 4 b) (fc:Fre 4 c)
include ha hb hc fa fb fc
theorem p2_ok : ∀ i,SmD 4 (P2 a b c i)/\Fre 4 (P2 a b c i):=fun i=>by
 unfold P2
 split
 ·exact ⟨⟨hc.nn,hc.deg.mono (by decide),hc.dl⟩,fc⟩
 ·split
  ·exact ⟨⟨hb.nn,hb.deg.mono (by decide),hb.dl⟩,fb⟩
  ·exact ⟨⟨ha.nn,ha.deg.mono (by decide),ha.dl⟩,fa⟩
omit ha fa in
theorem p3_ok : ∀ i,SmD 4 (P3 b c i)/\Fre 4 (P3 b c i):=fun i=>by
 unfold P3
 split
 ·exact ⟨⟨hc.nn,hc.deg.mono (by decide),hc.dl⟩,fc⟩
 ·split
  ·exact ⟨⟨hb.nn,hb.deg.mono (by decide),hb.dl⟩,fb⟩
  ·split
   ·exact ⟨⟨qaW (by decide),(qhB 0).mono (by decide),by decide⟩,(Fre.nil 4).sim (Sim.symm (fun m=>by simp [qab]))⟩
   ·exact ⟨⟨qaW (by decide),(qhB 1).mono (by decide),by decide⟩,qlV 4⟩
theorem disc_two (za : ¬ Sim a []):DgR 4 (poly 4 3 (P2 a b c)) 2/\Sz 4 20 (poly 4 3 (P2 a b c))/\Sim (dsL 4 2 (poly 4 3 (P2 a b c))) (pmul b b ++ pmul (pmul (pmul a c) [(4,Mo.zero)]) [(-1,Mo.zero)]):=by
 have ok:=p2_ok ha hb hc fa fb fc;have hd:DgR 4 (poly 4 3 (P2 a b c)) 2:=dgr_p4 (n:=3) (by decide) (fun i=>(ok i).2) za;have hs:Sz 4 20 (poly 4 3 (P2 a b c)):=sz_p4 (fun i _=>ok i) (by decide);have hk:=fun k=>ckP (J:=4) (by decide) (by decide) (fun i=>(ok i).2) k 3;refine ⟨hd,hs,dsc_two (by decide) (by decide) hs.n hd (qsx (by decide) (by decide) hs.n (by decide) (by decide) hd) ?_ fun x=>?_⟩
 ·exact (qaT hb.nn hb.nn).append (qaT (qaT (qaT ha.nn hc.nn) (qaW (by decide))) (qaW (by decide)))
 ·have e0:ev x (ck 4 0 (poly 4 3 (P2 a b c)))=ev x c:=qaO x (hk 0);have e1:ev x (ck 4 1 (poly 4 3 (P2 a b c)))=ev x b:=qaO x (hk 1);have e2:ev x (ck 4 2 (poly 4 3 (P2 a b c)))=ev x a:=qaO x (hk 2);rw [e0,e1,e2,qbU,qaC x hb.nn hb.nn,qaC x (qaT (qaT ha.nn hc.nn) (qaW (by decide))) (qaW (by decide)),qaC x (qaT ha.nn hc.nn) (qaW (by decide)),qaC x ha.nn hc.nn,qfe,qfe]
  grind
omit ha fa in
theorem disc_thr:DgR 4 (poly 4 4 (P3 b c)) 3/\Sz 4 20 (poly 4 4 (P3 b c))/\Sim (dsL 4 3 (poly 4 4 (P3 b c))) (pmul (qaM b 3) [(-4,Mo.zero)] ++ pmul (pmul (pmul c c) [(27,Mo.zero)]) [(-1,Mo.zero)]):=by
 have ok:=p3_ok hb hc fb fc;have hd:DgR 4 (poly 4 4 (P3 b c)) 3:=dgr_p4 (n:=4) (by decide) (fun i=>(ok i).2) qrc;have hs:Sz 4 20 (poly 4 4 (P3 b c)):=sz_p4 (fun i _=>ok i) (by decide);have hk:=fun k=>ckP (J:=4) (by decide) (by decide) (fun i=>(ok i).2) k 4;refine ⟨hd,hs,dsc_three (by decide) (by decide) hs.n hd (qsx (by decide) (by decide) hs.n (by decide) (by decide) hd) ?_ (fun x=>?_) (fun x=>?_) fun x=>?_⟩
 ·exact (qaT (qar hb.nn 3) (qaW (by decide))).append (qaT (qaT (qaT hc.nn hc.nn) (qaW (by decide))) (qaW (by decide)))
 ·exact (qaO x (hk 3)).trans (qfe x 1)
 ·exact (qaO x (hk 2)).trans (qfe x 0)
 ·have e0:ev x (ck 4 0 (poly 4 4 (P3 b c)))=ev x c:=qaO x (hk 0);have e1:ev x (ck 4 1 (poly 4 4 (P3 b c)))=ev x b:=qaO x (hk 1);rw [e0,e1,qbU,qaC x (qar hb.nn 3) (qaW (by decide)),qbG x hb.nn,qaC x (qaT (qaT hc.nn hc.nn) (qaW (by decide))) (qaW (by decide)),qaC x (qaT hc.nn hc.nn) (qaW (by decide)),qaC x hc.nn hc.nn,qfe,qfe,qfe]
  grind
end
theorem disc_lead {J n:Nat} (h1:1<=J) (h4:J<=4) {f:List Tm} (nf:NN f) (df:DgR J f n) {q:Nat} (hq:(n=1/\q=0)∨(n=2/\q=1)∨(n=3/\q=3)):Sim (pmul (dsL J n f) (ck J (n:Int) f)) (pwL (SJ J 0 n (n - 1) f (poly J n (dvC J f))) q):=by
 have hd:=qsx h1 h4 nf (by omega) (by omega) df;have nS:=qbb h1 h4 nf (qfJ h1 h4 nf n) 0 n (n - 1);have nl:NN (ck J (n:Int) f):=qaY h1 h4 nf
 have e:pwL (SJ J 0 n (n - 1) f (poly J n (dvC J f))) q=sgS n (SJ J 0 n (n - 1) f (poly J n (dvC J f))):=by
  rcases hq with ⟨rfl,rfl⟩ | ⟨rfl,rfl⟩ | ⟨rfl,rfl⟩ <;> rfl
 rw [e];refine qeU (qaT hd.1 nl) (qrf nS) fun x=>?_;rw [qaC x hd.1 nl,qrs x n nS];exact hd.2 x
theorem lvR_fre {l:List Tm} {k:Nat} (h:LvR l k) (hk:k≠4):Fre 4 l:=fun m hm=>h.2.1 m hm 4 (by have:=h.1;omega) (by decide)


section
variable {P:Program} {ops:Array Oper} {Q:Exit->Act->World->Prop} {md:Region.Mode} {S:World->Prop} {last:Nat}
structure Tag (i:Nat):Prop where
def LsG (P:Program) (md:Region.Mode) (ops:Array Oper) (Q:Exit->Act->World->Prop) (S:World->Prop) (last fuel:Nat) (listed:Array Bool) (a:Act) (w:World):List Nat->Prop
 | []=>True
 | i :: l=>(Tag i -> ∀ o,ops[i]? = some o -> ∀ K':Act->World->Prop,Shut (∀ a w,(i≠last->S w)->qbu P md ops Q S last fuel (listed.setIfInBounds i true) a w->K' a w)->if Region.wanted o (yielded ops a.tmps)=true then Oper.wp P o a w K' Q else K' (a.put o.dst undef) w)/\LsG P md ops Q S last fuel listed a w l
theorem LsG.get {fuel:Nat} {listed:Array Bool} {a:Act} {w:World} {i:Nat} : ∀ {l:List Nat},LsG P md ops Q S last fuel listed a w l->i ∈ l -> ∀ o,ops[i]? = some o -> ∀ K':Act->World->Prop,Shut (∀ a w,(i≠last->S w)->qbu P md ops Q S last fuel (listed.setIfInBounds i true) a w->K' a w)->if Region.wanted o (yielded ops a.tmps)=true then Oper.wp P o a w K' Q else K' (a.put o.dst undef) w
 | [],_,h=>absurd h List.not_mem_nil
 | j :: l,h,hi=>by
  rcases List.mem_cons.1 hi with rfl | h2
  ·exact h.1 ⟨⟩
  ·exact LsG.get h.2 h2
theorem wpAnyU_ls (L:List Nat) {fuel:Nat} {listed:Array Bool} {a:Act} {w:World} (hr:Region.ready md ops listed=L) (hL:L ≠ []) (h:LsG P md ops Q S last fuel listed a w L):qbu P md ops Q S last (fuel+1) listed a w:=by
 refine ⟨fun h0=>absurd (hr.symm.trans h0) hL,fun j hj=>?_⟩;obtain ⟨_,o,ho,_⟩:=mem_ready.1 hj;rw [hr] at hj;exact wpOp_step ho fun K' hK=>h.get hj o ho K' fun a w h1 h2=>hK a w ⟨h1,h2⟩
end
def M11 (A B C:Option Nat):Nat->Prop:=fun g=>A=some g∨B=some g∨C=some g
structure S11 (wd wk:World) (A B C:Option Nat):Prop where
 e:Ext wd wk
 a : ∀ g,A=some g->Blk wk g 33 4 (arr zA)/\wd.heap.size<=g
 b : ∀ g,B=some g->Blk wk g 33 4 (arr zA)/\wd.heap.size<=g
 c : ∀ g,C=some g->Blk wk g 33 4 (arr zA)/\wd.heap.size<=g
 ab : ∀ g,A=some g->B≠some g
 ac : ∀ g,A=some g->C≠some g
 bc : ∀ g,B=some g->C≠some g
theorem S11.start (wd:World):S11 wd wd none none none:=⟨Ext.refl _,(fun g h=>by cases h),(fun g h=>by cases h),(fun g h=>by cases h),(fun g h=>by cases h),(fun g h=>by cases h),fun g h=>by cases h⟩
section
variable {wd wk w':World} {A B C:Option Nat} {x:PE} {l:List Tm}
theorem S11.lt (h:S11 wd wk A B C) (g:Nat) (hg:M11 A B C g):wd.heap.size<=g/\g<wk.heap.size:=by
 rcases hg with hg | hg | hg
 ·exact ⟨(h.a g hg).2,(h.a g hg).1.lt⟩
 ·exact ⟨(h.b g hg).2,(h.b g hg).1.lt⟩
 ·exact ⟨(h.c g hg).2,(h.c g hg).1.lt⟩
theorem S11.mb (h:S11 wd wk A B C):Mb (M11 A B C) wk:=fun g hg=>(h.lt g hg).2
theorem S11.call (h:S11 wd wk A B C) (d:Ext wk w'):S11 wd w' A B C:=⟨h.e.trans d,fun g hg=>⟨(h.a g hg).1.ext d,(h.a g hg).2⟩,fun g hg=>⟨(h.b g hg).1.ext d,(h.b g hg).2⟩,fun g hg=>⟨(h.c g hg).1.ext d,(h.c g hg).2⟩,h.ab,h.ac,h.bc⟩
theorem S11.swap (h:S11 wd wk A B C):S11 wd wk B A C:=⟨h.e,h.b,h.a,h.c,fun g hb ha=>h.ab g ha hb,h.bc,h.ac⟩
theorem S11.rot (h:S11 wd wk A B C):S11 wd wk C B A:=⟨h.e,h.c,h.b,h.a,fun g hc hb=>h.bc g hb hc,fun g hc ha=>h.ac g ha hc,fun g hb ha=>h.ab g ha hb⟩
theorem M11.swap {g:Nat} (h:M11 A B C g):M11 B A C g:=h.elim (fun k=>.inr (.inl k)) fun k=>k.elim .inl fun j=>.inr (.inr j)
theorem M11.rot {g:Nat} (h:M11 A B C g):M11 C B A g:=h.elim (fun k=>.inr (.inr k)) fun k=>k.elim (fun j=>.inr (.inl j)) .inl
theorem S11.nA (h:S11 wd wk none B C) : ∃ v g,wk.alloc (.cells zA 33)=v/\wk.heap.size=g/\S11 wd v (some g) B C /\ ∀ (x:PE) (l:List Tm),CRx (M11 none B C) wk 4 x l->CRx (M11 (some g) B C) v 4 x l:=by
 have d:Ext wk (wk.alloc (.cells zA 33)):=(Ext.refl wk).alloc _;refine ⟨_,_,rfl,rfl,⟨h.e.trans d,fun g hg=>?_,fun g hg=>⟨(h.b g hg).1.ext d,(h.b g hg).2⟩,fun g hg=>⟨(h.c g hg).1.ext d,(h.c g hg).2⟩,fun g hg hb=>?_,fun g hg hb=>?_,h.bc⟩,fun x l hx=>(hx.more (M':=M11 (some wk.heap.size) B C) fun g hg=>?_).ext d⟩
 ·cases hg;exact ⟨Blk.of_arr wk zA 33 4 rfl,h.e.size⟩
 ·cases hg;have:=(h.b _ hb).1.lt;omega
 ·cases hg;have:=(h.c _ hb).1.lt;omega
 ·rcases hg with hg | hg
  ·cases hg;exact .inr (Nat.le_refl _)
  ·exact .inl (.inr hg)
theorem S11.nB (h:S11 wd wk A none C) : ∃ v g,wk.alloc (.cells zA 33)=v/\wk.heap.size=g/\S11 wd v A (some g) C /\ ∀ (x:PE) (l:List Tm),CRx (M11 A none C) wk 4 x l->CRx (M11 A (some g) C) v 4 x l:=by
 obtain ⟨v,g,h1,h2,h3,h4⟩:=h.swap.nA;exact ⟨v,g,h1,h2,h3.swap,fun x l hx=>(h4 x l (hx.more fun g hg=>.inl hg.swap)).more fun g hg=>.inl hg.swap⟩
theorem S11.nC (h:S11 wd wk A B none) : ∃ v g,wk.alloc (.cells zA 33)=v/\wk.heap.size=g/\S11 wd v A B (some g) /\ ∀ (x:PE) (l:List Tm),CRx (M11 A B none) wk 4 x l->CRx (M11 A B (some g)) v 4 x l:=by
 obtain ⟨v,g,h1,h2,h3,h4⟩:=h.rot.nA;exact ⟨v,g,h1,h2,h3.rot,fun x l hx=>(h4 x l (hx.more fun g hg=>.inl hg.rot)).more fun g hg=>.inl hg.rot⟩
end
structure Put3 (wd W:World) (a b c:Nat) (x y z:PE) (l r t:List Tm):Prop where
 e:Ext wd W
 p:P4 W a x
 q:P4 W b y
 s:P4 W c z
 x:CRx M0 W 4 x l
 y:CRx M0 W 4 y r
 z:CRx M0 W 4 z t
theorem S11.put3 {wd wk : World} {a b c : Nat} {x y z : PE} {l r t : List Tm} (h : S11 wd wk (some a) (some b) (some c)) (hx : CRx (M11 (some a) (some b) (some c)) wk 4 x l) (hy : CRx (M11 (some a) (some b) (some c)) wk 4 y r) (hz : CRx (M11 (some a) (some b) (some c)) wk 4 z t) :
  ∃ W1,W1=set4 wk a 0 (.int .i64 x.lv) (.bool x.b) (.slice x.a x.n x.p) (.slice x.ka x.kn x.kp)/\Z4 wk a/\Fz4 wk a/\Ext wd W1/\Z4 W1 b/\Fz4 W1 b /\
  ∃ W2,W2=set4 W1 b 0 (.int .i64 y.lv) (.bool y.b) (.slice y.a y.n y.p) (.slice y.ka y.kn y.kp)/\Ext wd W2/\Z4 W2 c/\Fz4 W2 c /\
  ∃ W3,W3=set4 W2 c 0 (.int .i64 z.lv) (.bool z.b) (.slice z.a z.n z.p) (.slice z.ka z.kn z.kp)/\Put3 wd W3 a b c x y z l r t:=by
 obtain ⟨hA,ha⟩:=h.a a rfl;obtain ⟨hB,hb⟩:=h.b b rfl;obtain ⟨hC,hc⟩:=h.c c rfl;have nab:b≠a:=fun e=>h.ab a rfl (by rw [e]);have nac:c≠a:=fun e=>h.ac a rfl (by rw [e]);have nbc:c≠b:=fun e=>h.bc b rfl (by rw [e]);have k1:Kp (M11 (some a) (some b) (some c)) wk (set4 wk a 0 (.int .i64 x.lv) (.bool x.b) (.slice x.a x.n x.p) (.slice x.ka x.kn x.kp)):=Kp.set4 (.inl rfl) _ _ _ _ _;have a1:=qcO hA x;have b1:=hB.of_heap (qag wk a 0 (.int .i64 x.lv) (.bool x.b) (.slice x.a x.n x.p) (.slice x.ka x.kn x.kp) b nab);have c1:=hC.of_heap (qag wk a 0 (.int .i64 x.lv) (.bool x.b) (.slice x.a x.n x.p) (.slice x.ka x.kn x.kp) c nac);have e1:=h.e.set4 ha 0 (.int .i64 x.lv) (.bool x.b) (.slice x.a x.n x.p) (.slice x.ka x.kn x.kp);have x1:=hx.kp k1;have y1:=hy.kp k1;have z1:=hz.kp k1;refine ⟨_,rfl,hA.z4,hA.fz4,e1,b1.z4,b1.fz4,?_⟩;generalize set4 wk a 0 (.int .i64 x.lv) (.bool x.b) (.slice x.a x.n x.p) (.slice x.ka x.kn x.kp)=W1 at *;have k2:Kp (M11 (some a) (some b) (some c)) W1 (set4 W1 b 0 (.int .i64 y.lv) (.bool y.b) (.slice y.a y.n y.p) (.slice y.ka y.kn y.kp)):=Kp.set4 (.inr (.inl rfl)) _ _ _ _ _;have a2:=a1.of_heap (qag W1 b 0 (.int .i64 y.lv) (.bool y.b) (.slice y.a y.n y.p) (.slice y.ka y.kn y.kp) a (fun e=>nab e.symm));have b2:=qcO b1 y;have c2:=c1.of_heap (qag W1 b 0 (.int .i64 y.lv) (.bool y.b) (.slice y.a y.n y.p) (.slice y.ka y.kn y.kp) c nbc);have e2:=e1.set4 hb 0 (.int .i64 y.lv) (.bool y.b) (.slice y.a y.n y.p) (.slice y.ka y.kn y.kp);have x2:=x1.kp k2;have y2:=y1.kp k2;have z2:=z1.kp k2
 refine ⟨_,rfl,e2,c2.z4,c2.fz4,_,rfl,?_⟩;generalize set4 W1 b 0 (.int .i64 y.lv) (.bool y.b) (.slice y.a y.n y.p) (.slice y.ka y.kn y.kp)=W2 at *;have k3:Kp (M11 (some a) (some b) (some c)) W2 (set4 W2 c 0 (.int .i64 z.lv) (.bool z.b) (.slice z.a z.n z.p) (.slice z.ka z.kn z.kp)):=Kp.set4 (.inr (.inr rfl)) _ _ _ _ _;have m0 : ∀ g,M0 g->M11 (some a) (some b) (some c) g∨W2.heap.size<=g:=fun g hg=>hg.elim;refine ⟨e2.set4 hc _ _ _ _ _,(a2.of_heap (qag _ _ _ _ _ _ _ _ fun e=>nac e.symm)).p4,(b2.of_heap (qag _ _ _ _ _ _ _ _ fun e=>nbc e.symm)).p4,(qcO c2 z).p4,(x2.kp k3).more fun g hg=>hg.elim,(y2.kp k3).more fun g hg=>hg.elim,(z2.kp k3).more fun g hg=>hg.elim⟩
def DsCut26 (a b c:List Tm) (wd:World) (s12 s13 s14:Value) (wx:World):Prop:=∃ (ga gb gc:Nat) (xa xb xc:PE),s12 = .pointer (some ⟨ga,0,none⟩)/\s13 = .pointer (some ⟨gb,0,none⟩)/\s14 = .pointer (some ⟨gc,0,none⟩)/\Put3 wd wx ga gb gc xa xb xc a b c
def S3s (g:Nat) (a:Option Addr) (n p:Nat) (b:Option Addr) (m q:Nat) (c:Option Addr) (k r:Nat) (w:World):Prop:=(w.cell? ⟨g,0,none⟩=some (.slice a n p)/\w.cell? ⟨g,1,none⟩=some (.slice b m q)/\w.cell? ⟨g,2,none⟩=some (.slice c k r))/\g<w.heap.size
theorem S3s.ext {g:Nat} {a:Option Addr} {n p:Nat} {b:Option Addr} {m q:Nat} {c:Option Addr} {k r:Nat} {w w':World} (h:S3s g a n p b m q c k r w) (he:Ext w w'):S3s g a n p b m q c k r w':=⟨⟨by rw [he.cell h.2];exact h.1.1,by rw [he.cell h.2];exact h.1.2.1,by rw [he.cell h.2];exact h.1.2.2⟩,Nat.lt_of_lt_of_le h.2 he.size⟩
def vP (u:Value):Option PE->Value
 | none=>u
 | some x=>.agg (peA x)
def vG (u:Value):Option Nat->Value
 | none=>u
 | some g=>.pointer (some ⟨g,0,none⟩)
theorem vP_n (u:Value):vP u none=u:=rfl
theorem vP_s (u:Value) (x:PE):vP u (some x) = .agg (peA x):=rfl
theorem vG_n (u:Value):vG u none=u:=rfl
theorem vG_s (u:Value) (g:Nat):vG u (some g) = .pointer (some ⟨g,0,none⟩):=rfl
def okMix (md:Region.Mode) (ops:Array Oper) (i1 i2 i3 j1 j2 j3:Nat) (Lf:Bool->Bool->Bool->Bool->Bool->Bool->Array Bool):Bool:=
 [false,true].all fun b1=>[false,true].all fun b2=>[false,true].all fun b3=>[false,true].all fun c1=>[false,true].all fun c2=>[false,true].all fun c3=>
  (b2 && !b1) || (b3 && !b2) || (b1 && b2 && b3 && c1 && c2 && c3) || (!(Region.ready md ops (Lf b1 b2 b3 c1 c2 c3)).isEmpty && (Region.ready md ops (Lf b1 b2 b3 c1 c2 c3)).all fun i=>(i == i1 && !b1) || (i == i2 && b1 && !b2) || (i == i3 && b2 && !b3) || (i == j1 && !c1) || (i == j2 && !c2) || (i == j3 && !c3))
theorem okMix.get {md:Region.Mode} {ops:Array Oper} {i1 i2 i3 j1 j2 j3:Nat} {Lf:Bool->Bool->Bool->Bool->Bool->Bool->Array Bool} (h:okMix md ops i1 i2 i3 j1 j2 j3 Lf=true) (b1 b2 b3 c1 c2 c3:Bool) (h1:b2=true->b1=true) (h2:b3=true->b2=true) (h3:(b1 && b2 && b3 && c1 && c2 && c3)=false):Region.ready md ops (Lf b1 b2 b3 c1 c2 c3) ≠ [] /\ ∀ i ∈ Region.ready md ops (Lf b1 b2 b3 c1 c2 c3),(i=i1/\b1=false)∨(i=i2/\b1=true/\b2=false)∨(i=i3/\b2=true/\b3=false)∨(i=j1/\c1=false)∨(i=j2/\c2=false)∨(i=j3/\c3=false):=by
 have m : ∀ b:Bool,b ∈ [false,true]:=fun b=>by cases b <;> simp
 unfold okMix at h;simp only [List.all_eq_true] at h;have h4:=h b1 (m b1) b2 (m b2) b3 (m b3) c1 (m c1) c2 (m c2) c3 (m c3);generalize Region.ready md ops (Lf b1 b2 b3 c1 c2 c3)=r at *;simp only [Bool.or_eq_true,Bool.and_eq_true,Bool.not_eq_true',List.isEmpty_eq_false_iff,List.all_eq_true,beq_iff_eq] at h4;rcases h4 with ((⟨k1,k2⟩ | ⟨k1,k2⟩) | k) | ⟨k1,k2⟩
 ·rw [h1 k1] at k2;cases k2
 ·rw [h2 k1] at k2;cases k2
 ·simp [k] at h3
 ·refine ⟨k1,fun i hi=>?_⟩;rcases k2 i hi with ((((k | k) | k) | k) | k) | k
  ·exact .inl k
  ·exact .inr (.inl ⟨k.1.1,k.1.2,k.2⟩)
  ·exact .inr (.inr (.inl ⟨k.1.1,k.1.2,k.2⟩))
  ·exact .inr (.inr (.inr (.inl k)))
  ·exact .inr (.inr (.inr (.inr (.inl k))))
  ·exact .inr (.inr (.inr (.inr (.inr k))))
def F3 (a0:Act) (d1 d2 d3 e1 e2 e3:Nat) (z1 z2 z3 z4 z5 z6:Value) (X Y Z:Option PE) (A B C:Option Nat):Act:=(((((a0.put (some d1) (vP z1 X)).put (some d2) (vP z2 Y)).put (some d3) (vP z3 Z)).put (some e1) (vG z4 A)).put (some e2) (vG z5 B)).put (some e3) (vG z6 C)
def cnt3 (X Y Z:Option PE) (A B C:Option Nat):Nat:=(if X.isSome then 0 else 1)+(if Y.isSome then 0 else 1)+(if Z.isSome then 0 else 1)+(if A.isSome then 0 else 1)+(if B.isSome then 0 else 1)+(if C.isSome then 0 else 1)
section
variable {P:Program} {ops:Array Oper} {Q:Exit->Act->World->Prop} {md:Region.Mode} {S:World->Prop} {last:Nat}
theorem wpAnyU_mix {z1 z2 z3 z4 z5 z6 : Value} {a0 : Act} {l0 : Array Bool} {fuel : Nat} {wd : World} {la lb lc : List Tm} (i1 i2 i3 j1 j2 j3 d1 d2 d3 e1 e2 e3 : Nat) (Lf : Bool -> Bool -> Bool -> Bool -> Bool -> Bool -> Array Bool)
  (hl0:Lf false false false false false false=l0) (hF0:F3 a0 d1 d2 d3 e1 e2 e3 z1 z2 z3 z4 z5 z6 none none none none none none=a0)
  (hr:okMix md ops i1 i2 i3 j1 j2 j3 Lf=true)
  (hs : ∀ b1 b2 b3 c1 c2 c3:Bool,(Lf false b2 b3 c1 c2 c3).setIfInBounds i1 true=Lf true b2 b3 c1 c2 c3/\(Lf b1 false b3 c1 c2 c3).setIfInBounds i2 true=Lf b1 true b3 c1 c2 c3/\(Lf b1 b2 false c1 c2 c3).setIfInBounds i3 true=Lf b1 b2 true c1 c2 c3/\(Lf b1 b2 b3 false c2 c3).setIfInBounds j1 true=Lf b1 b2 b3 true c2 c3/\(Lf b1 b2 b3 c1 false c3).setIfInBounds j2 true=Lf b1 b2 b3 c1 true c3/\(Lf b1 b2 b3 c1 c2 false).setIfInBounds j3 true=Lf b1 b2 b3 c1 c2 true)
  (hS : ∀ w,Ext wd w->S w)
  (h1 : ∀ A B C w,S11 wd w A B C -> ∀ o,ops[i1]? = some o -> ∀ K:Act->World->Prop,Shut (∀ x w',Ext w w'->CRx (M11 A B C) w' 4 x la->K (F3 a0 d1 d2 d3 e1 e2 e3 z1 z2 z3 z4 z5 z6 (some x) none none A B C) w')->if Region.wanted o (yielded ops (F3 a0 d1 d2 d3 e1 e2 e3 z1 z2 z3 z4 z5 z6 none none none A B C).tmps)=true then Oper.wp P o (F3 a0 d1 d2 d3 e1 e2 e3 z1 z2 z3 z4 z5 z6 none none none A B C) w K Q else K ((F3 a0 d1 d2 d3 e1 e2 e3 z1 z2 z3 z4 z5 z6 none none none A B C).put o.dst undef) w)
  (h2 : ∀ u A B C w,S11 wd w A B C -> ∀ o,ops[i2]? = some o -> ∀ K:Act->World->Prop,Shut (∀ x w',Ext w w'->CRx (M11 A B C) w' 4 x lb->K (F3 a0 d1 d2 d3 e1 e2 e3 z1 z2 z3 z4 z5 z6 (some u) (some x) none A B C) w')->if Region.wanted o (yielded ops (F3 a0 d1 d2 d3 e1 e2 e3 z1 z2 z3 z4 z5 z6 (some u) none none A B C).tmps)=true then Oper.wp P o (F3 a0 d1 d2 d3 e1 e2 e3 z1 z2 z3 z4 z5 z6 (some u) none none A B C) w K Q else K ((F3 a0 d1 d2 d3 e1 e2 e3 z1 z2 z3 z4 z5 z6 (some u) none none A B C).put o.dst undef) w)
  (h3 : ∀ u v A B C w,S11 wd w A B C -> ∀ o,ops[i3]? = some o -> ∀ K:Act->World->Prop,Shut (∀ x w',Ext w w'->CRx (M11 A B C) w' 4 x lc->K (F3 a0 d1 d2 d3 e1 e2 e3 z1 z2 z3 z4 z5 z6 (some u) (some v) (some x) A B C) w')->if Region.wanted o (yielded ops (F3 a0 d1 d2 d3 e1 e2 e3 z1 z2 z3 z4 z5 z6 (some u) (some v) none A B C).tmps)=true then Oper.wp P o (F3 a0 d1 d2 d3 e1 e2 e3 z1 z2 z3 z4 z5 z6 (some u) (some v) none A B C) w K Q else K ((F3 a0 d1 d2 d3 e1 e2 e3 z1 z2 z3 z4 z5 z6 (some u) (some v) none A B C).put o.dst undef) w)
  (k1 : ∀ X Y Z B C w o,ops[j1]? = some o -> ∀ K:Act->World->Prop,Shut (K (F3 a0 d1 d2 d3 e1 e2 e3 z1 z2 z3 z4 z5 z6 X Y Z (some w.heap.size) B C) (w.alloc (.cells zA 33)))->if Region.wanted o (yielded ops (F3 a0 d1 d2 d3 e1 e2 e3 z1 z2 z3 z4 z5 z6 X Y Z none B C).tmps)=true then Oper.wp P o (F3 a0 d1 d2 d3 e1 e2 e3 z1 z2 z3 z4 z5 z6 X Y Z none B C) w K Q else K ((F3 a0 d1 d2 d3 e1 e2 e3 z1 z2 z3 z4 z5 z6 X Y Z none B C).put o.dst undef) w)
  (k2 : ∀ X Y Z A C w o,ops[j2]? = some o -> ∀ K:Act->World->Prop,Shut (K (F3 a0 d1 d2 d3 e1 e2 e3 z1 z2 z3 z4 z5 z6 X Y Z A (some w.heap.size) C) (w.alloc (.cells zA 33)))->if Region.wanted o (yielded ops (F3 a0 d1 d2 d3 e1 e2 e3 z1 z2 z3 z4 z5 z6 X Y Z A none C).tmps)=true then Oper.wp P o (F3 a0 d1 d2 d3 e1 e2 e3 z1 z2 z3 z4 z5 z6 X Y Z A none C) w K Q else K ((F3 a0 d1 d2 d3 e1 e2 e3 z1 z2 z3 z4 z5 z6 X Y Z A none C).put o.dst undef) w)
  (k3 : ∀ X Y Z A B w o,ops[j3]? = some o -> ∀ K:Act->World->Prop,Shut (K (F3 a0 d1 d2 d3 e1 e2 e3 z1 z2 z3 z4 z5 z6 X Y Z A B (some w.heap.size)) (w.alloc (.cells zA 33)))->if Region.wanted o (yielded ops (F3 a0 d1 d2 d3 e1 e2 e3 z1 z2 z3 z4 z5 z6 X Y Z A B none).tmps)=true then Oper.wp P o (F3 a0 d1 d2 d3 e1 e2 e3 z1 z2 z3 z4 z5 z6 X Y Z A B none) w K Q else K ((F3 a0 d1 d2 d3 e1 e2 e3 z1 z2 z3 z4 z5 z6 X Y Z A B none).put o.dst undef) w)
  (he : ∀ x y z a b c w,S11 wd w (some a) (some b) (some c)->CRx (M11 (some a) (some b) (some c)) w 4 x la->CRx (M11 (some a) (some b) (some c)) w 4 y lb->CRx (M11 (some a) (some b) (some c)) w 4 z lc->qbu P md ops Q S last fuel (Lf true true true true true true) (F3 a0 d1 d2 d3 e1 e2 e3 z1 z2 z3 z4 z5 z6 (some x) (some y) (some z) (some a) (some b) (some c)) w) :
  qbu P md ops Q S last (fuel+6) l0 a0 wd:=by
 have key : ∀ (n : Nat) (X Y Z : Option PE) (A B C : Option Nat) (w : World), cnt3 X Y Z A B C = n -> (Y.isSome = true -> X.isSome = true) -> (Z.isSome = true -> Y.isSome = true) -> S11 wd w A B C -> (∀ x, X = some x -> CRx (M11 A B C) w 4 x la) -> (∀ x, Y = some x -> CRx (M11 A B C) w 4 x lb) -> (∀ x, Z = some x -> CRx (M11 A B C) w 4 x lc) ->
   qbu P md ops Q S last (fuel+n) (Lf X.isSome Y.isSome Z.isSome A.isSome B.isSome C.isSome) (F3 a0 d1 d2 d3 e1 e2 e3 z1 z2 z3 z4 z5 z6 X Y Z A B C) w:=by
  intro n
  induction n with
  | zero=>
   intro X Y Z A B C w hn hY hZ hw hx hy hz;cases X <;> cases Y <;> cases Z <;> cases A <;> cases B <;> cases C <;> simp [cnt3] at hn;exact he _ _ _ _ _ _ w hw (hx _ rfl) (hy _ rfl) (hz _ rfl)
  | succ n ih=>
   intro X Y Z A B C w hn hY hZ hw hx hy hz
   have hb:(X.isSome && Y.isSome && Z.isSome && A.isSome && B.isSome && C.isSome)=false:=by
    cases X <;> cases Y <;> cases Z <;> cases A <;> cases B <;> cases C <;> first | rfl | (simp [cnt3] at hn)
   obtain ⟨hr1,hr2⟩:=okMix.get hr _ _ _ _ _ _ hY hZ hb;refine ⟨fun h0=>absurd h0 hr1,fun i hi=>?_⟩;obtain ⟨_,o,ho,_⟩:=mem_ready.1 hi;refine wpOp_step ho fun K' hK=>?_;rcases hr2 i hi with ⟨rfl,hb1⟩ | ⟨rfl,hb1,hb2⟩ | ⟨rfl,hb1,hb2⟩ | ⟨rfl,hb1⟩ | ⟨rfl,hb1⟩ | ⟨rfl,hb1⟩
   ·obtain rfl:X=none:=by cases X <;> first | rfl | cases hb1
    obtain rfl:Y=none:=by cases Y <;> first | rfl | cases hY rfl
    obtain rfl:Z=none:=by cases Z <;> first | rfl | cases hZ rfl
    refine h1 A B C w hw o ho K' fun x w' d hx'=>hK _ _ ⟨fun _=>hS _ (hw.e.trans d),?_⟩;have:=ih (some x) none none A B C w' (by simp [cnt3] at hn ⊢;omega) (fun h=>rfl) (fun h=>h) (hw.call d) (fun y hy=>by cases hy;exact hx') (fun y hy=>by cases hy) (fun y hy=>by cases hy);exact (congrArg (fun l=>qbu P md ops Q S last (fuel+n) l _ _) (hs false _ _ _ _ _).1).mpr this
   ·obtain ⟨u,rfl⟩:=Option.isSome_iff_exists.1 hb1
    obtain rfl:Y=none:=by cases Y <;> first | rfl | cases hb2
    obtain rfl:Z=none:=by cases Z <;> first | rfl | cases hZ rfl
    refine h2 u A B C w hw o ho K' fun x w' d hx'=>hK _ _ ⟨fun _=>hS _ (hw.e.trans d),?_⟩;have:=ih (some u) (some x) none A B C w' (by simp [cnt3] at hn ⊢;omega) (fun h=>rfl) (fun h=>by cases h) (hw.call d) (fun y hy=>(hx y hy).ext d) (fun y hy=>by cases hy;exact hx') (fun y hy=>by cases hy);exact (congrArg (fun l=>qbu P md ops Q S last (fuel+n) l _ _) (hs _ false _ _ _ _).2.1).mpr this
   ·obtain ⟨v,rfl⟩:=Option.isSome_iff_exists.1 hb1;obtain ⟨u,rfl⟩:=Option.isSome_iff_exists.1 (hY rfl)
    obtain rfl:Z=none:=by cases Z <;> first | rfl | cases hb2
    refine h3 u v A B C w hw o ho K' fun x w' d hx'=>hK _ _ ⟨fun _=>hS _ (hw.e.trans d),?_⟩;have:=ih (some u) (some v) (some x) A B C w' (by simp [cnt3] at hn ⊢;omega) (fun h=>rfl) (fun h=>rfl) (hw.call d) (fun y hy=>(hx y hy).ext d) (fun y h=>(hy y h).ext d) (fun y hy=>by cases hy;exact hx');exact (congrArg (fun l=>qbu P md ops Q S last (fuel+n) l _ _) (hs _ _ false _ _ _).2.2.1).mpr this
   ·obtain rfl:A=none:=by cases A <;> first | rfl | cases hb1
    obtain ⟨v,g,rfl,rfl,hw2,hkp⟩:=hw.nA;refine k1 X Y Z B C w o ho K' (hK _ _ ⟨fun _=>hS _ hw2.e,?_⟩);have:=ih X Y Z (some w.heap.size) B C _ (by simp [cnt3] at hn ⊢;omega) hY hZ hw2 (fun y h=>hkp _ _ (hx y h)) (fun y h=>hkp _ _ (hy y h)) (fun y h=>hkp _ _ (hz y h));exact (congrArg (fun l=>qbu P md ops Q S last (fuel+n) l _ _) (hs _ _ _ false _ _).2.2.2.1).mpr this
   ·obtain rfl:B=none:=by cases B <;> first | rfl | cases hb1
    obtain ⟨v,g,rfl,rfl,hw2,hkp⟩:=hw.nB;refine k2 X Y Z A C w o ho K' (hK _ _ ⟨fun _=>hS _ hw2.e,?_⟩);have:=ih X Y Z A (some w.heap.size) C _ (by simp [cnt3] at hn ⊢;omega) hY hZ hw2 (fun y h=>hkp _ _ (hx y h)) (fun y h=>hkp _ _ (hy y h)) (fun y h=>hkp _ _ (hz y h));exact (congrArg (fun l=>qbu P md ops Q S last (fuel+n) l _ _) (hs _ _ _ _ false _).2.2.2.2.1).mpr this
   ·obtain rfl:C=none:=by cases C <;> first | rfl | cases hb1
    obtain ⟨v,g,rfl,rfl,hw2,hkp⟩:=hw.nC;refine k3 X Y Z A B w o ho K' (hK _ _ ⟨fun _=>hS _ hw2.e,?_⟩);have:=ih X Y Z A B (some w.heap.size) _ (by simp [cnt3] at hn ⊢;omega) hY hZ hw2 (fun y h=>hkp _ _ (hx y h)) (fun y h=>hkp _ _ (hy y h)) (fun y h=>hkp _ _ (hz y h));exact (congrArg (fun l=>qbu P md ops Q S last (fuel+n) l _ _) (hs _ _ _ _ _ false).2.2.2.2.2).mpr this
 have:=key 6 none none none none none none wd rfl (fun h=>h) (fun h=>h) (S11.start wd) (fun x h=>by cases h) (fun x h=>by cases h) (fun x h=>by cases h);rw [hF0] at this;rw [<- hl0];exact this
end


theorem sz20 {B:Nat} {l:List Tm} (h:SmD B l) (hB:B<=4):Sz 4 20 l:=⟨h.nn,h.deg.mono hB,Nat.le_trans h.dl (by decide)⟩
def DkK (f:List Tm) (L er:Int) (d:List Tm):Prop:=(¬ (1<=L/\L<=4)/\er=4/\d = [])∨(∃ (J:Nat) (dz:Int),L=(J:Int)/\(1<=J/\J<=4)/\DgV J f dz/\dz<1/\er=12/\d = []) ∨ ∃ J n:Nat,L=(J:Int)/\(1<=J/\J<=4)/\DgR J f n/\(n=1∨n=2∨n=3)/\er=0/\d=dsL J n f
theorem dk_known {f:List Tm} (hf:SmD 3 f) (L:Int) (x:PE) (W:World) (hx:CRx M0 W 4 x f) : ∃ er d,DkK f L er d/\Calls Tryz.prog 11 #[.agg (peA x),.int .i64 L] W (qjM M0 W 4 d er):=by
 by_cases hl:1<=L/\L<=4
 ·obtain ⟨J,rfl⟩ : ∃ J:Nat,L=(J:Int):=⟨L.toNat,by omega⟩
  have h1:1<=J:=by omega
  have h4:J<=4:=by omega
  have low : ∀ dz,DgV J f dz->dz<1 -> ∃ er d,DkK f (J:Int) er d/\Calls Tryz.prog 11 #[.agg (peA x),.int .i64 (J:Int)] W (qjM M0 W 4 d er):=fun dz hd hz=>⟨12,[],.inr (.inl ⟨J,dz,rfl,⟨h1,h4⟩,hd,hz,rfl,rfl⟩),rd_low M0 x J dz f W (mb0 _) h1 h4 hf.nn hd hz hx⟩
  by_cases hz:Sim f []
  ·exact low (-1) (.inl ⟨hz,rfl⟩) (by decide)
  ·obtain ⟨n,hn⟩:=qfh (k:=J) hf.nn;have hn3:n<=3:=qhv hn hf.deg
   by_cases h0:n=0
   ·exact low n (.inr ⟨hz,n,hn,rfl⟩) (by omega)
   ·exact ⟨0,_,.inr (.inr ⟨J,n,rfl,⟨h1,h4⟩,hn,by omega,rfl,rfl⟩),qsd h1 h4 (by omega) (by omega) (sz20 hf (by decide)) hn M0 x W (mb0 _) hx⟩
 ·exact ⟨4,[],.inl ⟨hl,rfl,rfl⟩,rd_bad M0 x L W (mb0 _) hl⟩
theorem ds_szG {J n:Nat} (h1:1<=J) (h4:J<=4) (hn:1<=n) (hn4:n<=4) {f:List Tm} (hf:Sz 4 20 f) (df:DgR J f n):Sz 1000 200 (dsL J n f):=by
 have nf:=hf.n;have hd:=qsx h1 h4 nf hn hn4 df;have hS:=(Gn.drv1 h1 h4 hn hn4 hf df).rsz;have nl:NN (ck J (n:Int) f):=qaY h1 h4 nf;have zl : ¬ Sim (ck J (n:Int) f) []:=df.ckn h1 h4 hn
 have hu:Sim (pmul (dsL J n f) (ck J (n:Int) f)) (sgS n (SJ J 0 n (n - 1) f (poly J n (dvC J f)))):=qeU (qaT hd.1 nl) (qrf hS.n) fun x=>by
  rw [qaC x hd.1 nl,qrs x n hS.n];exact hd.2 x
 refine ⟨hd.1,qfR hd.1 nl zl hu ?_,Nat.le_trans (qrH (A:=21) (by decide) (Nat.le_trans hf.a (by decide)) (qoF (by omega) hf.a) hn hn4) ?_⟩
 ·unfold sgS
  split
  ·exact fun m hm k=>hS.d m (fun e=>hm (by rw [qaX,e];rfl)) k
  ·exact hS.d
 ·have:n - 1+n<=7:=by omega
  have:=Nat.mul_le_mul_right 21 this;omega
structure DlK (wd:World) (x:PE) (J n:Nat) (z:Int) (f g R p:List Tm):Prop where
 c1 : ∀ A B wk,S7 wd wk A B->Calls Tryz.prog 17 #[.agg (peA x),.int .i64 (J:Int)] wk (qa3 (M7 A B) wk 4 g)
 c2 : ∀ A B wk,S7 wd wk A B -> ∀ u,CRx (M7 A B) wk 4 u g->Calls Tryz.prog 16 #[.agg (peA x),.agg (peA u),.int .i64 (J:Int)] wk (qa3 (M7 A B) wk 4 R)
 c3 : ∀ A B wk,S7 wd wk A B -> ∀ u,CRx (M7 A B) wk 4 u R->Calls Tryz.prog 15 #[.agg (peA u),.int .i64 z] wk (qa3 (M7 A B) wk 4 p)
 c4 : ∀ wk,Ext wd wk->Calls Tryz.prog 20 #[.agg (peA x),.int .i64 (J:Int)] wk (qa3 M0 wk 4 (ck J (n:Int) f))
 c5 : ∀ wk u v,CRx M0 wk 4 u (dsL J n f)->CRx M0 wk 4 v (ck J (n:Int) f)->Calls Tryz.prog 19 #[.agg (peA u),.agg (peA v)] wk (qa3 M0 wk 4 (pmul (dsL J n f) (ck J (n:Int) f)))
 s:Sim (pmul (dsL J n f) (ck J (n:Int) f)) p
theorem dlK_of {J n:Nat} (h1:1<=J) (h4:J<=4) {f:List Tm} (hf:SmD 3 f) (df:DgR J f n) {q:Nat} {z:Int} (hq:(n=1/\q=0)∨(n=2/\q=1)∨(n=3/\q=3)) (hz:z=(q:Int)) (x:PE) (wd:World) (hx:CRx M0 wd 4 x f) : ∃ g R p,DlK wd x J n z f g R p:=by
 subst hz;have sf:=sz20 hf (show 3<=4 by decide);have zf : ¬ Sim f []:=df.nz h1 h4 (by omega);have H:=Gn.drv1 h1 h4 (show 1<=n by omega) (by omega) sf df;have hc:=sf.ck h1 h4 (n:Int);refine ⟨_,_,pwL (SJ J 0 n (n - 1) f (poly J n (dvC J f))) q,fun A B wk S=>qlF _ x f J n wk h1 h4 zf df sf S.mb (S.old hx),fun A B wk S u hu=>law_res26 _ x u (J:Int) 0 _ wk S.mb fun M' wk' hM' hm he=>H.resO M' x u wk' hM' (((S.old hx).more hm).ext he) ((hu.more hm).ext he),fun A B wk S u hu=>law_power26 _ u _ q 1000 wk S.mb hu (Nat.le_trans (Nat.succ_le_succ H.rsz.a) (by decide)) H.rsz.d (by decide) (by omega),fun wk he=>qhf h1 h4 sf zf df (by decide) (by decide) M0 wk x (mb0 _) (hx.ext he),fun wk u v hu hv=>qox (ds_szG h1 h4 (by omega) (by omega) sf df) hc.sz (by decide) (by decide) (by decide) (by decide) M0 wk u v (mb0 _) hu hv,disc_lead h1 h4 hf.nn df hq⟩
theorem S7.nK {wd wk:World} {B:Option Nat} (h:S7 wd wk none B) : ∃ v g,wk.alloc (.cells zA 33)=v/\wk.heap.size=g/\S7 wd v (some g) B/\(∀ (x:PE) (l:List Tm),CRx (M7 none B) wk 4 x l->CRx (M7 (some g) B) v 4 x l) /\ ∀ (v0 v1:Value) (z:Int),qbt (M7 none B) wk v0 v1 z->qbt (M7 (some g) B) v v0 v1 z:=by
 refine ⟨_,_,rfl,rfl,h.allA,fun _ _ k=>h.keepA k,fun v0 v1 z hx=>(hx.more (M':=M7 (some wk.heap.size) B) fun g hg=>?_).ext ((Ext.refl wk).alloc _)⟩;rcases hg with hg | hg
 ·cases hg;exact .inr (Nat.le_refl _)
 ·exact .inl (.inr hg)
theorem int_ofV (M:Nat->Prop) (z:Int) (hz : -100<=z/\z<=100) (W':World) (hM:Mb M W'):Calls Tryz.prog 23 #[.int .i64 z] W' fun e w'=>∃ b a n p,e = .returned (.agg #[.bool b,.slice a n p])/\qbt M w' (.bool b) (.slice a n p) z/\Ext W' w':=by
 refine (qdl z W' hM (by omega) (by omega)).mono ?_;rintro e w' ⟨e0,e1,rfl,hI,he⟩;obtain ⟨b,a,n,p,rfl,rfl⟩:=hI.form;exact ⟨b,a,n,p,rfl,hI.toV,he⟩
theorem dl_app {A:Nat} {l r:List Tm} (h:dlen (nrm l)<=A) (k:dlen (nrm r)<=A):dlen (nrm (l ++ r))<=A+1:=by
 rw [qaj] at *;rw [qak,Nat.pow_succ];have:0<4294967296 ^ A:=Nat.pow_pos (by decide);omega
theorem sz_c {B A:Nat} {l:List Tm} (h:Sz B A l) (z:Int) (hz:dlen z.natAbs<=1):Sz B (A+1) (pmul l [(z,Mo.zero)]):=⟨qaT h.n (qdk z),qnY h.d z,by
 rw [qbf,show nrm [(z,Mo.zero)]=z.natAbs from rfl]
 exact Nat.le_trans (qbs _ _) (Nat.add_le_add h.a hz)⟩
theorem sz_p3 {b:List Tm} (h:SmD 2 b):Sz 6 20 (qaM b 3):=⟨qar h.nn 3,(qeE h.deg h.nn 3).mono (by decide),by
 show dlen (nrm (pmul (pmul (pmul [(1,Mo.zero)] b) b) b))<=20;rw [qbf,qbf,qbf];refine Nat.le_trans (qbs _ _) (Nat.le_trans (Nat.add_le_add (Nat.le_trans (qbs _ _) (Nat.add_le_add (qbs _ _) h.dl)) h.dl) ?_);have h1:=h.dl
 have h2:dlen (nrm [((1:Int),Mo.zero)])<=1:=by decide
 omega⟩
theorem sz_b1 {a c:List Tm} (h:SmD 2 a) (k:SmD 2 c):dlen (nrm (pmul a c))+dlen (4:Int).natAbs<=1099511627776:=Nat.le_trans (Nat.add_le_add (h.prod k).a (show dlen (4:Int).natAbs<=1 by decide)) (by decide)
theorem sz_b2 {a c:List Tm} (h:SmD 2 a) (k:SmD 2 c):dlen (nrm (pmul a c))+dlen (27:Int).natAbs<=1099511627776:=Nat.le_trans (Nat.add_le_add (h.prod k).a (show dlen (27:Int).natAbs<=1 by decide)) (by decide)
theorem sz_b3 {b:List Tm} (h:SmD 2 b):dlen (nrm (qaM b 3))+dlen (-4:Int).natAbs<=1099511627776:=Nat.le_trans (Nat.add_le_add (sz_p3 h).a (show dlen (-4:Int).natAbs<=1 by decide)) (by decide)
theorem sub_ok {B C:Nat} {l r:List Tm} (M:Nat->Prop) (x y:PE) (hl:Sz B 21 l) (hr:Sz C 21 r) (hC:C<=100) (w:World) (hM:Mb M w) (hx:CRx M w 4 x l) (hy:CRx M w 4 y r):Calls Tryz.prog 25 #[.agg (peA x),.agg (peA y)] w (qa3 M w 4 (l ++ pmul r [(-1,Mo.zero)])):=
 qiL M x y l r C w hM hx.pi hy.pi (Nat.le_trans (dl_app (A:=22) (Nat.le_trans hl.a (by decide)) (sz_c hr (-1) (by decide)).a) (by decide)) (Nat.le_trans (Nat.succ_le_succ hr.a) (by decide)) hr.d (Nat.le_trans (Nat.succ_le_succ hC) (by decide))
theorem krow3 {w : World} {x y z : PE} {P : Nat -> List Tm} (hx : CRx M0 w 4 x (P 0)) (hy : CRx M0 w 4 y (P 1)) (hz : CRx M0 w 4 z (P 2)) :
  qbh M0 (w.alloc (.cells #[.int .i64 x.lv,.bool x.b,.slice x.a x.n x.p,.slice x.ka x.kn x.kp,.int .i64 y.lv,.bool y.b,.slice y.a y.n y.p,.slice y.ka y.kn y.kp,.int .i64 z.lv,.bool z.b,.slice z.a z.n z.p,.slice z.ka z.kn z.kp] 33)) 4 (.slice (some ⟨w.heap.size,0,none⟩) 3 3) 3 P:=by
 have d:Ext w (w.alloc (.cells #[.int .i64 x.lv,.bool x.b,.slice x.a x.n x.p,.slice x.ka x.kn x.kp,.int .i64 y.lv,.bool y.b,.slice y.a y.n y.p,.slice y.ka y.kn y.kp,.int .i64 z.lv,.bool z.b,.slice z.a z.n z.p,.slice z.ka z.kn z.kp] 33)):=(Ext.refl w).alloc _;have hB:=Blk.of_arr w #[.int .i64 x.lv,.bool x.b,.slice x.a x.n x.p,.slice x.ka x.kn x.kp,.int .i64 y.lv,.bool y.b,.slice y.a y.n y.p,.slice y.ka y.kn y.kp,.int .i64 z.lv,.bool z.b,.slice z.a z.n z.p,.slice z.ka z.kn z.kp] 33 12 rfl;refine ⟨by decide,.inr ⟨w.heap.size,0,3,rfl,Nat.le_refl _,by unfold maxLen;decide,⟨hB.lt,fun h=>h⟩,fun i hi=>?_⟩⟩;rcases (show i=0∨i=1∨i=2 by omega) with rfl | rfl | rfl
 ·exact ⟨_,_,_,_,hB.cell (i:=0) (by omega),hB.cell (i:=1) (by omega),hB.cell (i:=2) (by omega),hB.cell (i:=3) (by omega),hx.ext d⟩
 ·exact ⟨_,_,_,_,hB.cell (i:=4) (by omega),hB.cell (i:=5) (by omega),hB.cell (i:=6) (by omega),hB.cell (i:=7) (by omega),hy.ext d⟩
 ·exact ⟨_,_,_,_,hB.cell (i:=8) (by omega),hB.cell (i:=9) (by omega),hB.cell (i:=10) (by omega),hB.cell (i:=11) (by omega),hz.ext d⟩
theorem krow4 {w : World} {x y z u : PE} {P : Nat -> List Tm} (hx : CRx M0 w 4 x (P 0)) (hy : CRx M0 w 4 y (P 1)) (hz : CRx M0 w 4 z (P 2)) (hu : CRx M0 w 4 u (P 3)) :
  qbh M0 (w.alloc (.cells #[.int .i64 x.lv,.bool x.b,.slice x.a x.n x.p,.slice x.ka x.kn x.kp,.int .i64 y.lv,.bool y.b,.slice y.a y.n y.p,.slice y.ka y.kn y.kp,.int .i64 z.lv,.bool z.b,.slice z.a z.n z.p,.slice z.ka z.kn z.kp,.int .i64 u.lv,.bool u.b,.slice u.a u.n u.p,.slice u.ka u.kn u.kp] 33)) 4 (.slice (some ⟨w.heap.size,0,none⟩) 4 4) 4 P:=by
 have d:Ext w (w.alloc (.cells #[.int .i64 x.lv,.bool x.b,.slice x.a x.n x.p,.slice x.ka x.kn x.kp,.int .i64 y.lv,.bool y.b,.slice y.a y.n y.p,.slice y.ka y.kn y.kp,.int .i64 z.lv,.bool z.b,.slice z.a z.n z.p,.slice z.ka z.kn z.kp,.int .i64 u.lv,.bool u.b,.slice u.a u.n u.p,.slice u.ka u.kn u.kp] 33)):=(Ext.refl w).alloc _;have hB:=Blk.of_arr w #[.int .i64 x.lv,.bool x.b,.slice x.a x.n x.p,.slice x.ka x.kn x.kp,.int .i64 y.lv,.bool y.b,.slice y.a y.n y.p,.slice y.ka y.kn y.kp,.int .i64 z.lv,.bool z.b,.slice z.a z.n z.p,.slice z.ka z.kn z.kp,.int .i64 u.lv,.bool u.b,.slice u.a u.n u.p,.slice u.ka u.kn u.kp] 33 16 rfl;refine ⟨by decide,.inr ⟨w.heap.size,0,4,rfl,Nat.le_refl _,by unfold maxLen;decide,⟨hB.lt,fun h=>h⟩,fun i hi=>?_⟩⟩;rcases (show i=0∨i=1∨i=2∨i=3 by omega) with rfl | rfl | rfl | rfl
 ·exact ⟨_,_,_,_,hB.cell (i:=0) (by omega),hB.cell (i:=1) (by omega),hB.cell (i:=2) (by omega),hB.cell (i:=3) (by omega),hx.ext d⟩
 ·exact ⟨_,_,_,_,hB.cell (i:=4) (by omega),hB.cell (i:=5) (by omega),hB.cell (i:=6) (by omega),hB.cell (i:=7) (by omega),hy.ext d⟩
 ·exact ⟨_,_,_,_,hB.cell (i:=8) (by omega),hB.cell (i:=9) (by omega),hB.cell (i:=10) (by omega),hB.cell (i:=11) (by omega),hz.ext d⟩
 ·exact ⟨_,_,_,_,hB.cell (i:=12) (by omega),hB.cell (i:=13) (by omega),hB.cell (i:=14) (by omega),hB.cell (i:=15) (by omega),hu.ext d⟩
structure DmK (a b c t u:List Tm):Prop where
 j3 : ∀ w r,qbh M0 w 4 (.slice r 3 3) 3 (P2 a b c)->Calls Tryz.prog 24 #[.slice r 3 3,.int .i64 4] w (qa3 M0 w 4 t)
 d3 : ∀ w x,CRx M0 w 4 x t->Calls Tryz.prog 11 #[.agg (peA x),.int .i64 4] w (qjM M0 w 4 (pmul b b ++ pmul (pmul (pmul a c) [(4,Mo.zero)]) [(-1,Mo.zero)]) 0)
 j4 : ∀ w r,qbh M0 w 4 (.slice r 4 4) 4 (P3 b c)->Calls Tryz.prog 24 #[.slice r 4 4,.int .i64 4] w (qa3 M0 w 4 u)
 d4 : ∀ w x,CRx M0 w 4 x u->Calls Tryz.prog 11 #[.agg (peA x),.int .i64 4] w (qjM M0 w 4 (pmul (qaM b 3) [(-4,Mo.zero)] ++ pmul (pmul (pmul c c) [(27,Mo.zero)]) [(-1,Mo.zero)]) 0)
theorem dmK_of {a b c:List Tm} (ha:SmD 2 a) (hb:SmD 2 b) (hc:SmD 2 c) (fa:Fre 4 a) (fb:Fre 4 b) (fc:Fre 4 c) (za : ¬ Sim a []) : ∃ t u,DmK a b c t u:=by
 obtain ⟨g2,s2,e2⟩:=disc_two ha hb hc fa fb fc za;obtain ⟨g3,s3,e3⟩:=disc_thr hb hc fb fc;have o2:=p2_ok ha hb hc fa fb fc;have o3:=p3_ok hb hc fb fc;refine ⟨_,_,fun w r h=>qi6 (L:=4) (S:=4) (A:=5) w (mb0 _) h (by decide) (by decide) (fun i _=>(o2 i).1.deg) (by decide) (by decide) (fun i _=>(o2 i).1.dl) (by decide),fun w x hx=>(qsd (J:=4) (n:=2) (by decide) (by decide) (by decide) (by decide) s2 g2 M0 x w (mb0 _) hx).mono ?_,fun w r h=>qi6 (L:=4) (S:=4) (A:=5) w (mb0 _) h (by decide) (by decide) (fun i _=>(o3 i).1.deg) (by decide) (by decide) (fun i _=>(o3 i).1.dl) (by decide),fun w x hx=>(qsd (J:=4) (n:=3) (by decide) (by decide) (by decide) (by decide) s3 g3 M0 x w (mb0 _) hx).mono ?_⟩
 ·rintro e w' ⟨v,h1,h2,h3⟩;exact ⟨v,h1,h2.sim e2,h3⟩
 ·rintro e w' ⟨v,h1,h2,h3⟩;exact ⟨v,h1,h2.sim e3,h3⟩


def D13 (p:List Tm) (wd:World) (s:Value) (wx:World):Prop:=∃ (a:Nat) (v:PE),s = .pointer (some ⟨a,0,none⟩)/\qsL wd wx a v p
theorem law_disc26 (a1 : Option Addr) (n1 p1 : Nat) (X1 : Nat -> TE) (a2 : Option Addr) (n2 p2 : Nat) (X2 : Nat -> TE) (a3 : Option Addr) (n3 p3 : Nat) (X3 : Nat -> TE) (a4 : Option Addr) (n4 p4 : Nat) (X4 : Nat -> TE) (L : Int) (w : World) (h1 : qqA w a1 n1 p1 X1) (h2 : qqA w a2 n2 p2 X2) (h3 : qqA w a3 n3 p3 X3) (h4 : qqA w a4 n4 p4 X4) :
  Calls Tryz.prog 3 #[.slice a1 n1 p1,.agg #[.slice a2 n2 p2,.slice a3 n3 p3,.slice a4 n4 p4],.int .i64 L] w fun e w'=>e = .returned (.bool true)/\Ext w w':=by
 have HR1:=Lib.hid h1;have HR2:=Lib.hid h2;have HR3:=Lib.hid h3;have HR4:=Lib.hid h4;clear h1 h2 h3 h4;have hE0:Ext w (w.alloc (.cells #[.slice a2 n2 p2,.slice a3 n3 p3,.slice a4 n4 p4] 24)):=(Ext.refl w).alloc _;have hB0:=Blk.of_arr w #[.slice a2 n2 p2,.slice a3 n3 p3,.slice a4 n4 p4] 24 3 rfl;have HC0:Hid (S3s w.heap.size a2 n2 p2 a3 n3 p3 a4 n4 p4 (w.alloc (.cells #[.slice a2 n2 p2,.slice a3 n3 p3,.slice a4 n4 p4] 24))):=⟨⟨hB0.cell (i:=0) (by omega),hB0.cell (i:=1) (by omega),hB0.cell (i:=2) (by omega)⟩,hB0.lt⟩;clear hB0
 go_enter Tryz.func3,Tryz.ntmps3
 go_upto_region 1 with (fail)
 generalize w.alloc (.cells #[.slice a2 n2 p2,.slice a3 n3 p3,.slice a4 n4 p4] 24)=W0 at *;obtain ⟨g5,hg5⟩ : ∃ g5,g5=w.heap.size:=⟨_,rfl⟩;rw [<- hg5] at HC0 ⊢;clear hg5;go_wp2_with (fail);refine (qlK _).mono ?_;rintro e w1 ⟨rfl,he1⟩;have HE1:=Lib.hid (hE0.trans he1);have HC1:=Lib.hid (HC0.out.ext he1);have CF1:=Lib.hid (qhg a1 n1 p1 X1 5 3 w1 (HR1.out.1.ext HE1.out) HR1.out.2.1);rw [show ((5:Nat):Int)=5 from rfl,show ((3:Nat):Int)=3 from rfl] at CF1;have CF2:=Lib.hid (qhg a2 n2 p2 X2 3 2 w1 (HR2.out.1.ext HE1.out) HR2.out.2.1);rw [show ((3:Nat):Int)=3 from rfl,show ((2:Nat):Int)=2 from rfl] at CF2;have CF3:=Lib.hid (qhg a3 n3 p3 X3 3 2 w1 (HR3.out.1.ext HE1.out) HR3.out.2.1);rw [show ((3:Nat):Int)=3 from rfl,show ((2:Nat):Int)=2 from rfl] at CF3;have CF4:=Lib.hid (qhg a4 n4 p4 X4 3 2 w1 (HR4.out.1.ext HE1.out) HR4.out.2.1);rw [show ((3:Nat):Int)=3 from rfl,show ((2:Nat):Int)=2 from rfl] at CF4;clear he1 hE0 HC0;obtain ⟨⟨c0,c1,c2⟩,cl⟩:=HC1.out;go_wp2_with (fail);refine CF1.out.mono ?_;rintro e w2 ⟨b,rfl,hb1,rfl⟩
 cases b with
 | false=>
  clear hb1 CF1 CF2 CF3 CF4;go_wp2;go_ret;exact ⟨rfl,HE1.out⟩
 | true=>
 have HF1:=Lib.hid (hb1.1 rfl);clear hb1 CF1;go_wp2_with (fail);refine CF2.out.mono ?_;rintro e w2 ⟨b,rfl,hb2,rfl⟩
 cases b with
 | false=>
  clear hb2 CF2 CF3 CF4;go_wp2;go_ret;exact ⟨rfl,HE1.out⟩
 | true=>
 have HF2:=Lib.hid (hb2.1 rfl);clear hb2 CF2;go_wp2_with (fail);refine CF3.out.mono ?_;rintro e w2 ⟨b,rfl,hb3,rfl⟩
 cases b with
 | false=>
  clear hb3 CF3 CF4;go_wp2;go_ret;exact ⟨rfl,HE1.out⟩
 | true=>
 have HF3:=Lib.hid (hb3.1 rfl);clear hb3 CF3;go_wp2_with (fail);refine CF4.out.mono ?_;rintro e w2 ⟨b,rfl,hb4,rfl⟩
 cases b with
 | false=>
  clear hb4 CF4;go_wp2;go_ret;exact ⟨rfl,HE1.out⟩
 | true=>
 have HF4:=Lib.hid (hb4.1 rfl);clear hb4 CF4;clear c0 c1 c2 cl;obtain ⟨l1,hl1,HS1,hd1,hx1⟩:=HR1.out.smD (B:=3) HF1.out (by omega) (by omega);obtain ⟨l2,hl2,HS2,hd2,hx2⟩:=HR2.out.smD (B:=2) HF2.out (by omega) (by omega);obtain ⟨l3,hl3,HS3,hd3,hx3⟩:=HR3.out.smD (B:=2) HF3.out (by omega) (by omega);obtain ⟨l4,hl4,HS4,hd4,hx4⟩:=HR4.out.smD (B:=2) HF4.out (by omega) (by omega);have hlD1:=hl1.ext HE1.out;have HS1:=Lib.hid HS1;have hlD2:=hl2.ext HE1.out;have HS2:=Lib.hid HS2;have hlD3:=hl3.ext HE1.out;have HS3:=Lib.hid HS3;have hlD4:=hl4.ext HE1.out;have HS4:=Lib.hid HS4;have CO1:Hid (Calls Tryz.prog 10 #[.slice a1 n1 p1] w1 (qa3 M0 w1 4 (norm l1))):=qq3 M0 _ l1 w1 (mb0 _) hlD1 hd1 hx1;have CO2:Hid (∀ W,Ext w1 W -> ∀ A B C wk,S11 W wk A B C->Calls Tryz.prog 10 #[.slice a2 n2 p2] wk (qa3 (M11 A B C) wk 4 (norm l2))):=fun W h A B C wk hS=>qq3 _ _ l2 wk hS.mb (((hlD2.ext h).more fun g hg=>.inr (hS.lt g hg).1).ext hS.e) hd2 hx2;have CO3:Hid (∀ W,Ext w1 W -> ∀ A B C wk,S11 W wk A B C->Calls Tryz.prog 10 #[.slice a3 n3 p3] wk (qa3 (M11 A B C) wk 4 (norm l3))):=fun W h A B C wk hS=>qq3 _ _ l3 wk hS.mb (((hlD3.ext h).more fun g hg=>.inr (hS.lt g hg).1).ext hS.e) hd3 hx3;have CO4:Hid (∀ W,Ext w1 W -> ∀ A B C wk,S11 W wk A B C->Calls Tryz.prog 10 #[.slice a4 n4 p4] wk (qa3 (M11 A B C) wk 4 (norm l4))):=fun W h A B C wk hS=>qq3 _ _ l4 wk hS.mb (((hlD4.ext h).more fun g hg=>.inr (hS.lt g hg).1).ext hS.e) hd4 hx4;clear hl1 hd1 hx1 HF1 HR1 hlD1 hl2 hd2 hx2 HF2 HR2 hlD2 hl3 hd3 hx3 HF3 HR3 hlD3 hl4 hd4 hx4 HF4 HR4 hlD4
 generalize norm l1=f at *;generalize norm l2=a at *;generalize norm l3=b at *;generalize norm l4=c at *;go_wp2_with (fail);refine CO1.out.mono ?_;rintro e w2 ⟨x,rfl,hx,e2⟩;have HX2:=Lib.hid hx;have HE2:=Lib.hid e2;clear hx e2 CO1
 go_upto_region 6 with (fail)
 obtain ⟨W,hW⟩ : ∃ W,W=w2.alloc (.cells #[.int .i64 x.lv,.bool x.b,.slice x.a x.n x.p,.slice x.ka x.kn x.kp] 33):=⟨_,rfl⟩
 have eb:Ext w2 W:=by rw [hW];exact (Ext.refl _).alloc _
 obtain ⟨g0,hg0⟩ : ∃ g0,g0=w2.heap.size:=⟨_,rfl⟩
 have HP0:Hid (P4 W g0 x):=by rw [hW,hg0];exact (Blk.of_arr w2 (peA x) 33 4 rfl).p4
 have HX:=Lib.hid (HX2.out.ext eb);have HE1W:=Lib.hid (HE2.out.trans eb);have HE:=Lib.hid (HE1.out.trans HE1W.out);have HCW:=Lib.hid (HC1.out.ext HE1W.out);rw [<- hW,<- hg0];clear hW hg0 eb HX2 HE2 HE1 HC1;obtain ⟨er,d,hK,hC⟩:=dk_known HS1.out L x W HX.out;have HK:=Lib.hid hK;have CR:=Lib.hid hC;clear hK hC;obtain ⟨x0,x1,x2,x3⟩:=HP0.out;go_wp2_with (fail);refine CR.out.mono ?_;rintro e w6 ⟨v,rfl,hv,e6⟩;have HV6:=Lib.hid hv;have HE6:=Lib.hid e6;clear x0 x1 x2 x3 hv e6 CR
 go_upto_region 7 with (fail)
 obtain ⟨W7,hW7⟩ : ∃ W7,W7=w6.alloc (.cells #[.int .i64 v.lv,.bool v.b,.slice v.a v.n v.p,.slice v.ka v.kn v.kp] 33):=⟨_,rfl⟩
 have eb:Ext w6 W7:=by rw [hW7];exact (Ext.refl w6).alloc _
 have hP:P4 W7 w6.heap.size v:=by rw [hW7];exact (Blk.of_arr w6 (peA v) 33 4 rfl).p4
 obtain ⟨gd,hgd⟩ : ∃ gd,gd=w6.heap.size:=⟨_,rfl⟩;rw [<- hgd] at hP;rw [<- hW7,<- hgd];have HE7:=Lib.hid (HE6.out.trans eb);have HV7:=Lib.hid (HV6.out.ext eb);have HS7:Hid (SQ2 g0 gd x v W7):=⟨HP0.out.ext HE7.out,hP⟩;have HX7:=Lib.hid (HX.out.ext HE7.out);clear hW7 eb hP hgd HE6 HV6 HP0 HX;rcases HK.out with ⟨hl,rfl,rfl⟩ | hk
 ·have CI:=Lib.hid (qdt L false (by simp only [Bool.false_eq_true,false_iff];exact hl) W7);obtain ⟨_,v0,v1,v2,v3⟩:=HS7.out;clear hl HK;go_wp2_with (fail);refine CI.out.mono ?_;rintro e w8 ⟨rfl,rfl⟩;go_wp2_with (fail);refine (z_true v [] w8 HV7.out (Sim.refl _)).mono ?_;rintro e w9 ⟨rfl,e9⟩;have HF:=Lib.hid (HE.out.trans (HE7.out.trans e9));clear e9 v0 v1 v2 v3 CI;go_wp2;go_ret;exact ⟨rfl,HF.out⟩
 have hk2 : ∃ (J:Nat) (dz:Int),L=(J:Int)/\(1<=J/\J<=4)/\DgV J f dz/\((dz<1/\er=12/\d = []) ∨ ∃ n:Nat,dz=(n:Int)/\DgR J f n/\(n=1∨n=2∨n=3)/\er=0/\d=dsL J n f):=by
  rcases hk with ⟨J,dz,h1,h2,h3,h4,h5,h6⟩ | ⟨J,n,h1,h2,h3,h4,h5,h6⟩
  ·exact ⟨J,dz,h1,h2,h3,.inl ⟨h4,h5,h6⟩⟩
  ·exact ⟨J,n,h1,h2,.inr ⟨h3.nz h2.1 h2.2 (by omega),n,h3,rfl⟩,.inr ⟨n,rfl,h3,h4,h5,h6⟩⟩
 obtain ⟨J,dz,rfl,hJ,hdz,hk3⟩:=hk2;have HJ:=Lib.hid hJ;have HK3:=Lib.hid hk3;have CI:=Lib.hid (qdt (J:Int) true (by simp only [true_iff];omega) W7);have CDG:=Lib.hid (qcu M0 x f J dz W7 hJ.1 hJ.2 HS1.out.nn hdz (mb0 _) HX7.out.pi);clear hk HK hJ hdz hk3;obtain ⟨⟨x0,x1,x2,x3⟩,_⟩:=HS7.out;go_wp2_with (fail);refine CI.out.mono ?_;rintro e w8 ⟨rfl,hw⟩;obtain rfl:=hw.symm;clear hw CI;go_wp2_with (fail);refine CDG.out.mono ?_;rintro e w9 ⟨rfl,e9⟩;have HE9:=Lib.hid e9;clear CDG x0 x1 x2 x3 e9
 go_upto_if 67 with (fail)
 go_cut [11] (fun s wx=>Ext W7 wx)
 case first=>as_aux_lemma=>
  rcases HK3.out with ⟨hlt,rfl,rfl⟩ | ⟨n,hn0,hn,hn3,rfl,rfl⟩
  ·obtain ⟨_,v0,v1,v2,v3⟩:=HS7.out.ext HE9.out;clear HK3;go_wp2_with (fail);refine (z_true v [] w9 (HV7.out.ext HE9.out) (Sim.refl _)).mono ?_;rintro e w10 ⟨rfl,e10⟩;have HF:=Lib.hid (HE9.out.trans e10);clear e10 v0 v1 v2 v3;go_wp2
   go_meet
   exact HF.out
  ·have hqz : ∃ (q : Nat) (z : Int), ((n = 1 /\ q = 0) ∨ (n = 2 /\ q = 1) ∨ (n = 3 /\ q = 3)) /\ z = (q : Int) /\ ((dz = 1 /\ z = 0) ∨ (dz = 2 /\ z = 1) ∨ (dz = 3 /\ z = 3)) := by
    rcases hn3 with rfl | rfl | rfl
    ·exact ⟨0,0,.inl ⟨rfl,rfl⟩,rfl,.inl ⟨hn0,rfl⟩⟩
    ·exact ⟨1,1,.inr (.inl ⟨rfl,rfl⟩),rfl,.inr (.inl ⟨hn0,rfl⟩)⟩
    ·exact ⟨3,3,.inr (.inr ⟨rfl,rfl⟩),rfl,.inr (.inr ⟨hn0,rfl⟩)⟩
   obtain ⟨q,z,hq,hz,hc⟩:=hqz
   have hge : ¬ dz<1:=by omega
   have hEd:Ext W7 w9.drew:=HE9.out.trans (Ext.refl w9).drew;obtain ⟨g,R,p,hD⟩:=dlK_of HJ.out.1 HJ.out.2 HS1.out hn hq hz x w9.drew (HX7.out.ext hEd);have HD:=Lib.hid hD;have HED:=Lib.hid hEd;have HSd:Hid (P4 w9.drew g0 x):=HS7.out.1.ext hEd;have HCC:=Lib.hid hc;clear HK3 hn0 hn hn3 hq hz hc hD hEd
   go_upto_region 13 with (fail)
   clear hge
   go_cut [11] (D13 p w9.drew)
   case first=>as_aux_lemma=>
    rcases HCC.out with ⟨rfl,rfl⟩ | ⟨rfl,rfl⟩ | ⟨rfl,rfl⟩
    all_goals
     have C1:=Lib.hid HD.out.c1;have C2:=Lib.hid HD.out.c2;have C3:=Lib.hid HD.out.c3;refine qae (fun W=>P4 W g0 x) 14 (by kernel_rfl) HSd.out (fun hHeld=>?_);have S0:=S7.start w9.drew;clear HCC HD HSd HED HE9 HS7 HX7 HV7 HCW;generalize w9.drew=wd at *;(refine tkB [0,1,2,4,6,7,8,9,10] ?_;(iterate 9 (refine tk1 (oi:=?_) (v:=?_) (by kernel_rfl) (by first | exact hSn | exact hHeld) ?_ ?_ ?_ ?_ ?_;rotate_left 2;(simp only [xgA,xgB,xgC];rfl);rfl;(intro wS hSw;obtain ⟨A1,A2,A3,A4⟩:=hSw;go_simp;try with_reducible rfl);(exact fun _ _ _ h=>h);(try simp only [Act.put,xgD,xgE,xgF])));refine tkE ?_);have SX:=S0;clear S0
     iterate 4
      all_goals first | refine wpAnyU_ls [3,12] (by decide +kernel) (by decide) ?_ | refine wpAnyU_ls [3] (by decide +kernel) (by decide) ?_ | refine wpAnyU_ls [5,12] (by decide +kernel) (by decide) ?_ | refine wpAnyU_ls [5] (by decide +kernel) (by decide) ?_ | refine wpAnyU_ls [11,12] (by decide +kernel) (by decide) ?_ | refine wpAnyU_ls [11] (by decide +kernel) (by decide) ?_ | refine wpAnyU_ls [12] (by decide +kernel) (by decide) ?_
      all_goals simp only [LsG]
      all_goals repeat' (first | exact trivial | apply And.intro)
      all_goals (intro t o ho K hK;simp only [xgA,xgB,xgC,Option.some.injEq] at ho;subst ho;go_simp;(first | (have _t:Tag 12:=t;clear _t;obtain ⟨v,g,hv,hg,SX,hkp,hki⟩:=SX.nK;rw [hv];(try replace hd:=hkp _ _ hd);(try replace hr:=hkp _ _ hr);(try replace hp:=hkp _ _ hp);rw [hg];clear hv hg hkp hki) | (have _t:Tag 3:=t;clear _t;refine (C1.out _ _ _ SX).mono ?_;rintro e v ⟨u1,rfl,hd,D⟩;go_wp2_with (fail);replace SX:=SX.call D) | (have _t:Tag 5:=t;clear _t;refine (C2.out _ _ _ SX _ hd).mono ?_;rintro e v ⟨u2,rfl,hr,D⟩;go_wp2_with (fail);replace SX:=SX.call D) | (have _t:Tag 11:=t;clear _t;refine (C3.out _ _ _ SX _ hr).mono ?_;rintro e v ⟨u3,rfl,hp,D⟩;go_wp2_with (fail);replace SX:=SX.call D));(try replace hd:=hd.ext D);(try replace hr:=hr.ext D);(try replace hp:=hp.ext D);(try clear D);clear t;(try clear hSn);have hSn:=hHeld.ext SX.e;refine hK.out _ _ (fun _=>hSn) ?_;clear hK K;(try simp only [Act.put,xgD,xgE,xgF]))
     all_goals (obtain ⟨W1,hW1,⟨q0,q1,q2,q3⟩,⟨f0,f1,f2,f3⟩,HP2⟩:=SX.put1 hp;unfold set4 at hW1;have hSn1:=hHeld.ext HP2.e;clear hSn;(refine qaa 13 (o:=?_) (by kernel_rfl) ?_ ?_;rotate_left 1;(simp only [xgA,xgB,xgC];rfl);intro K hK);go_simp;rw [<- hW1];clear hW1;refine hK.out _ _ (fun _=>hSn1) ?_;clear hK K q0 q1 q2 q3 f0 f1 f2 f3;(try simp only [Act.put,xgD,xgE,xgF]);refine qac (by kernel_rfl) ?_ _;go_wp2_with (fail);go_meet;exact ⟨_,_,rfl,HP2⟩)
   case rest=>as_aux_lemma=>
    obtain ⟨ga,u,rfl,HP⟩:=hcut;have HEP:=Lib.hid (HED.out.trans HP.e);have HKP:=Lib.hid HP.e;have HSP:Hid (SJ3 g0 gd ga x v u wc):=⟨HSd.out.ext HP.e,HS7.out.2.ext (HED.out.trans HP.e),HP.p⟩;have HUP:=Lib.hid HP.x;have HVP:=Lib.hid (HV7.out.ext HEP.out);clear HP HCC HSd
    go_upto_region 14 with (fail)
    have hEd:Ext wc wc.drew:=(Ext.refl wc).drew;have HS9:Hid (SJ3 g0 gd ga x v u wc.drew):=HSP.out.ext hEd;have HK9:=Lib.hid (HKP.out.trans hEd);have HU9:=Lib.hid (HUP.out.ext hEd);have HV9:=Lib.hid (HVP.out.ext hEd);have HW9:=Lib.hid (HEP.out.trans hEd);clear HSP HKP HUP HVP HEP hEd HED;refine qae (SJ3 g0 gd ga x v u) 12 (by kernel_rfl) HS9.out (fun hHeld=>?_);generalize wc.drew=we at *;(refine tkB [0,1,2,3,4,5,8] ?_;(iterate 7 (refine tk1 (oi:=?_) (v:=?_) (by kernel_rfl) (by first | exact hSn | exact hHeld) ?_ ?_ ?_ ?_ ?_;rotate_left 2;(simp only [xgA,xgB,xgC];rfl);rfl;(intro wS hSw;obtain ⟨⟨A1,A2,A3,A4⟩,⟨A5,A6,A7,A8⟩,A9,A10,A11,A12⟩:=hSw;go_simp;try with_reducible rfl);(exact fun _ _ _ h=>h);(try simp only [Act.put,xgD,xgE,xgF])));refine tkE ?_);((refine qaa 6 (o:=?_) (by kernel_rfl) ?_ ?_;rotate_left 1;(simp only [xgA,xgB,xgC];rfl);intro K hK);go_simp;(refine (HD.out.c4 we HK9.out).mono ?_);rintro e_ t1 ⟨y1,rfl,hy1,d1⟩;go_wp2_with (fail);(try clear hSn);(have hSn:=hHeld.ext d1);(refine hK.out _ _ (fun _=>hSn) ?_);clear hK K;(try simp only [Act.put,xgD,xgE,xgF]));((refine qaa 7 (o:=?_) (by kernel_rfl) ?_ ?_;rotate_left 1;(simp only [xgA,xgB,xgC];rfl);intro K hK);go_simp;(refine (HD.out.c5 t1 v y1 (HV9.out.ext d1) hy1).mono ?_);rintro e_ t2 ⟨y2,rfl,hy2,d2⟩;go_wp2_with (fail);(try clear hSn);(have hSn:=hHeld.ext (d1.trans d2));(refine hK.out _ _ (fun _=>hSn) ?_);clear hK K;(try simp only [Act.put,xgD,xgE,xgF]));((refine qaa 9 (o:=?_) (by kernel_rfl) ?_ ?_;rotate_left 1;(simp only [xgA,xgB,xgC];rfl);intro K hK);go_simp;(refine (qoi y2 u _ _ t2 true hy2.pi (HU9.out.ext (d1.trans d2)).pi (by simp only [true_iff];exact HD.out.s)).mono ?_);rintro e_ t3 ⟨rfl,d3⟩;go_wp2_with (fail);(try clear hSn);(have hSn:=hHeld.ext ((d1.trans d2).trans d3));(refine hK.out _ _ (fun _=>hSn) ?_);clear hK K;(try simp only [Act.put,xgD,xgE,xgF]))
    (refine tkB [10,11] ?_;(iterate 2 (refine tk1 (oi:=?_) (v:=?_) (by kernel_rfl) (by first | exact hSn | exact hHeld) ?_ ?_ ?_ ?_ ?_;rotate_left 2;(simp only [xgA,xgB,xgC];rfl);rfl;(intro wS hSw;obtain ⟨⟨A1,A2,A3,A4⟩,⟨A5,A6,A7,A8⟩,A9,A10,A11,A12⟩:=hSw;go_simp;try with_reducible rfl);(exact fun _ _ _ h=>h);(try simp only [Act.put,xgD,xgE,xgF])));refine tkE ?_);refine qac (by kernel_rfl) ?_ _;have HF:=Lib.hid (HW9.out.trans ((d1.trans d2).trans d3));clear hHeld hSn d1 d2 d3 hy1 hy2 HD HU9 HV9 HK9 HS9 HW9;go_wp2
    go_meet
    exact HF.out
 case rest=>
 have HEA:Hid (Ext W7 wc):=hcut;clear hcut HK3 HV7 HX7 HE9 HS7 HJ;have HEB:=Lib.hid (HE1W.out.trans (HE7.out.trans HEA.out));have HEW:=Lib.hid (HE.out.trans (HE7.out.trans HEA.out));have HCB:=Lib.hid (HCW.out.ext (HE7.out.trans HEA.out));clear HEA HE1W HE HE7 HCW
 go_upto_region 16 with (fail)
 have hEd:Ext wc wc.drew:=(Ext.refl wc).drew;have HCD:Hid (S3s g5 a2 n2 p2 a3 n3 p3 a4 n4 p4 wc.drew):=HCB.out.ext hEd;have HED:=Lib.hid (HEW.out.trans hEd);have HQ2:=Lib.hid (CO2.out wc.drew (HEB.out.trans hEd));have HQ3:=Lib.hid (CO3.out wc.drew (HEB.out.trans hEd));have HQ4:=Lib.hid (CO4.out wc.drew (HEB.out.trans hEd));clear hEd HCB HEW HEB CO2 CO3 CO4
 go_cut [12,13,14] (DsCut26 a b c wc.drew)
 case first=>as_aux_lemma=>
  have S0:=S11.start wc.drew;refine qae (S3s g5 a2 n2 p2 a3 n3 p3 a4 n4 p4) 15 (by kernel_rfl) HCD.out (fun hHeld=>?_);clear HCD HED HS1 HS2 HS3 HS4;generalize wc.drew=wd at *;(refine tkB [0,1,3,4,6,7] ?_;(iterate 6 (refine tk1 (oi:=?_) (v:=?_) (by kernel_rfl) (by first | exact hSn | exact hHeld) ?_ ?_ ?_ ?_ ?_;rotate_left 2;(simp only [xgA,xgB,xgC];rfl);rfl;(intro wS hSw;obtain ⟨⟨A0,A1,A2⟩,A3⟩:=hSw;go_simp;try with_reducible rfl);(exact fun _ _ _ h=>h);(try simp only [Act.put,xgD,xgE,xgF])));refine tkE ?_);clear S0;refine wpAnyU_mix (la:=a) (lb:=b) (lc:=c) (wd:=wd) 2 5 8 9 10 11 101 104 107 12 13 14 (fun b1 b2 b3 c1 c2 c3=>#[true,true,b1,true,true,b2,true,true,b3,c1,c2,c3,false,false,false]) rfl (by simp only [F3,vP_n,vP_s,vG_n,vG_s,Act.put,xgD,xgE,xgF];rfl) (by kernel_rfl) (fun _ _ _ _ _ _=>⟨rfl,rfl,rfl,rfl,rfl,rfl⟩) (fun w h=>hHeld.ext h) ?_ ?_ ?_ ?_ ?_ ?_ ?_
  ·intro A B C wk SX o ho K hK;simp only [xgA,xgB,xgC,Option.some.injEq] at ho;subst ho;have hK2:=hK.out;simp only [F3,vP_n,vP_s,vG_n,vG_s,Act.put,xgD,xgE,xgF] at hK2 ⊢;have HKK:=Lib.hid hK2;clear hK hK2 hHeld;go_simp;refine (HQ2.out _ _ _ _ SX).mono ?_;rintro e v ⟨x',rfl,hx,D⟩;go_wp2_with (fail);exact HKK.out x' v D hx
  ·intro u1 A B C wk SX o ho K hK;simp only [xgA,xgB,xgC,Option.some.injEq] at ho;subst ho;have hK2:=hK.out;simp only [F3,vP_n,vP_s,vG_n,vG_s,Act.put,xgD,xgE,xgF] at hK2 ⊢;have HKK:=Lib.hid hK2;clear hK hK2 hHeld;go_simp;refine (HQ3.out _ _ _ _ SX).mono ?_;rintro e v ⟨x',rfl,hx,D⟩;go_wp2_with (fail);exact HKK.out x' v D hx
  ·intro u1 u2 A B C wk SX o ho K hK;simp only [xgA,xgB,xgC,Option.some.injEq] at ho;subst ho;have hK2:=hK.out;simp only [F3,vP_n,vP_s,vG_n,vG_s,Act.put,xgD,xgE,xgF] at hK2 ⊢;have HKK:=Lib.hid hK2;clear hK hK2 hHeld;go_simp;refine (HQ4.out _ _ _ _ SX).mono ?_;rintro e v ⟨x',rfl,hx,D⟩;go_wp2_with (fail);exact HKK.out x' v D hx
  ·intro X Y Z B C wk o ho K hK;simp only [xgA,xgB,xgC,Option.some.injEq] at ho;subst ho;have hK2:=hK.out;simp only [F3,vP_n,vP_s,vG_n,vG_s,Act.put,xgD,xgE,xgF] at hK2 ⊢;have HKK:=Lib.hid hK2;clear hK hK2 hHeld;go_simp;exact HKK.out
  ·intro X Y Z B C wk o ho K hK;simp only [xgA,xgB,xgC,Option.some.injEq] at ho;subst ho;have hK2:=hK.out;simp only [F3,vP_n,vP_s,vG_n,vG_s,Act.put,xgD,xgE,xgF] at hK2 ⊢;have HKK:=Lib.hid hK2;clear hK hK2 hHeld;go_simp;exact HKK.out
  ·intro X Y Z B C wk o ho K hK;simp only [xgA,xgB,xgC,Option.some.injEq] at ho;subst ho;have hK2:=hK.out;simp only [F3,vP_n,vP_s,vG_n,vG_s,Act.put,xgD,xgE,xgF] at hK2 ⊢;have HKK:=Lib.hid hK2;clear hK hK2 hHeld;go_simp;exact HKK.out
  ·intro xa xb xc ga gb gc wk SX ha hb hc;simp only [F3,vP_n,vP_s,vG_n,vG_s,Act.put,xgD,xgE,xgF]
   (obtain ⟨W1,hW1,⟨q0,q1,q2,q3⟩,⟨f0,f1,f2,f3⟩,E1,⟨r0,r1,r2,r3⟩,⟨k0,k1,k2,k3⟩,W2,hW2,E2,⟨s0,s1,s2,s3⟩,⟨m0,m1,m2,m3⟩,W3,hW3,HP3⟩:=SX.put3 ha hb hc;unfold set4 at hW1 hW2 hW3;have hS1:=hHeld.ext E1;have hS2:=hHeld.ext E2;have hS3:=hHeld.ext HP3.e;(try clear hSn);(refine qaa 12 (o:=?_) (by kernel_rfl) ?_ ?_;rotate_left 1;(simp only [xgA,xgB,xgC];rfl);intro K hK);go_simp;rw [<- hW1];clear hW1;refine hK.out _ _ (fun _=>hS1) ?_;clear hK K q0 q1 q2 q3 f0 f1 f2 f3;(try simp only [Act.put,xgD,xgE,xgF]);(refine qaa 13 (o:=?_) (by kernel_rfl) ?_ ?_;rotate_left 1;(simp only [xgA,xgB,xgC];rfl);intro K hK);go_simp;rw [<- hW2];clear hW2;refine hK.out _ _ (fun _=>hS2) ?_;clear hK K r0 r1 r2 r3 k0 k1 k2 k3;(try simp only [Act.put,xgD,xgE,xgF]);(refine qaa 14 (o:=?_) (by kernel_rfl) ?_ ?_;rotate_left 1;(simp only [xgA,xgB,xgC];rfl);intro K hK);go_simp;rw [<- hW3];clear hW3;refine hK.out _ _ (fun _=>hS3) ?_;clear hK K s0 s1 s2 s3 m0 m1 m2 m3;(try simp only [Act.put,xgD,xgE,xgF]);refine qac (by kernel_rfl) ?_ _;go_wp2_with (fail);go_meet;exact ⟨_,_,_,_,_,_,rfl,rfl,rfl,HP3⟩)
 case rest=>
 obtain ⟨ga,gb,gc,xa,xb,xc,rfl,rfl,rfl,HP⟩:=hcut;have HEP:=Lib.hid (HED.out.trans HP.e);have HSP:Hid (SJ3 ga gb gc xa xb xc wc):=⟨HP.p,HP.q,HP.s⟩;have HA:=Lib.hid HP.x;have HB:=Lib.hid HP.y;have HC:=Lib.hid HP.z;clear HP HED HQ2 HQ3 HQ4 HCD HS1;obtain ⟨w17,rfl⟩ : ∃ w17,w17=wc:=⟨_,rfl⟩;obtain ⟨⟨x0,x1,x2,x3⟩,⟨y0,y1,y2,y3⟩,z0,z1,z2,z3⟩:=HSP.out;go_wp2_with (fail);refine (qaQ M0 xa a w17 (mb0 _) HA.out.pi).mono ?_;rintro e v1 ⟨b1,rfl,hb1,e1⟩;have HV1:=Lib.hid e1;have HZ1:=Lib.hid hb1;clear x0 x1 x2 x3 y0 y1 y2 y3 z0 z1 z2 z3 e1 hb1
 cases b1 with
 | true=>
  have HF:=Lib.hid (HEP.out.trans HV1.out);clear HZ1;go_wp2;go_ret;exact ⟨rfl,HF.out⟩
 | false=>
 have HN:Hid (¬ Sim a []):=fun hh=>by have:=HZ1.out.2 hh;cases this
 clear HZ1;obtain ⟨⟨x0,x1,x2,x3⟩,⟨y0,y1,y2,y3⟩,z0,z1,z2,z3⟩:=HSP.out.ext HV1.out;go_wp2_with (fail);refine (mv_Level M0 xa a v1 (mb0 _) (HA.out.ext HV1.out).pi).mono ?_;rintro e v2 ⟨k,rfl,hlv,e1⟩;have HV2:=Lib.hid (HV1.out.trans e1);have HLV:=Lib.hid hlv;clear x0 x1 x2 x3 y0 y1 y2 y3 z0 z1 z2 z3 e1 hlv HV1
 by_cases hk4:(k:Int)=4
 ·have HF:=Lib.hid (HEP.out.trans HV2.out)
  have hkb:((k:Int) == 4)=true:=by simp [hk4]
  clear HLV;go_wp2;go_ret;exact ⟨rfl,HF.out⟩
 have hkb:((k:Int) == 4)=false:=by simp [hk4]
 have HLa:Hid (Fre 4 a):=lvR_fre HLV.out (by omega);clear HLV;obtain ⟨⟨x0,x1,x2,x3⟩,⟨y0,y1,y2,y3⟩,z0,z1,z2,z3⟩:=HSP.out.ext HV2.out;go_wp2_with (fail);refine (mv_Level M0 xb b v2 (mb0 _) (HB.out.ext HV2.out).pi).mono ?_;rintro e v3 ⟨k,rfl,hlv,e1⟩;have HV3:=Lib.hid (HV2.out.trans e1);have HLV:=Lib.hid hlv;clear x0 x1 x2 x3 y0 y1 y2 y3 z0 z1 z2 z3 e1 hlv HV2
 by_cases hk4:(k:Int)=4
 ·have HF:=Lib.hid (HEP.out.trans HV3.out)
  have hkb:((k:Int) == 4)=true:=by simp [hk4]
  clear HLV;go_wp2;go_ret;exact ⟨rfl,HF.out⟩
 have hkb:((k:Int) == 4)=false:=by simp [hk4]
 have HLb:Hid (Fre 4 b):=lvR_fre HLV.out (by omega);clear HLV;obtain ⟨⟨x0,x1,x2,x3⟩,⟨y0,y1,y2,y3⟩,z0,z1,z2,z3⟩:=HSP.out.ext HV3.out;go_wp2_with (fail);refine (mv_Level M0 xc c v3 (mb0 _) (HC.out.ext HV3.out).pi).mono ?_;rintro e v4 ⟨k,rfl,hlv,e1⟩;have HV4:=Lib.hid (HV3.out.trans e1);have HLV:=Lib.hid hlv;clear x0 x1 x2 x3 y0 y1 y2 y3 z0 z1 z2 z3 e1 hlv HV3
 by_cases hk4:(k:Int)=4
 ·have HF:=Lib.hid (HEP.out.trans HV4.out)
  have hkb:((k:Int) == 4)=true:=by simp [hk4]
  clear HLV;go_wp2;go_ret;exact ⟨rfl,HF.out⟩
 have hkb:((k:Int) == 4)=false:=by simp [hk4]
 have HLc:Hid (Fre 4 c):=lvR_fre HLV.out (by omega);clear HLV;obtain ⟨tj,uj,hM⟩:=dmK_of HS2.out HS3.out HS4.out HLa.out HLb.out HLc.out HN.out;have HM:=Lib.hid hM;have HW4:=Lib.hid (HEP.out.trans HV4.out);replace HA:=Lib.hid (HA.out.ext HV4.out);replace HB:=Lib.hid (HB.out.ext HV4.out);replace HC:=Lib.hid (HC.out.ext HV4.out);have HS4':Hid (SJ3 ga gb gc xa xb xc v4):=HSP.out.ext HV4.out;clear hM HLa HLb HLc HN HEP HSP HV4;go_wp2_with (fail);refine (qgo 1 (by omega) v4).mono ?_;rintro e v5 ⟨ib,ia,ik,ip,rfl,hI,e5⟩;have HI:=Lib.hid hI;have HV5:=Lib.hid e5;clear hI e5;go_wp2_with (fail);refine (qcB M0 ib ia ik ip 1 v5 (mb0 _) HI.out).mono ?_;rintro e v6 ⟨y1,rfl,hy,e6⟩;have HO6:Hid (CRx M0 v6 4 y1 [(1,Mo.zero)]):=hy.up (by decide);have HV6:=Lib.hid (HV5.out.trans e6);clear hy e6 HI HV5;go_wp2_with (fail);refine (qgo 0 (by omega) v6).mono ?_;rintro e v7 ⟨jb,ja,jk,jp,rfl,hI,e7⟩;have HI:=Lib.hid hI;have HV7:=Lib.hid (HV6.out.trans e7);have HO7:=Lib.hid (HO6.out.ext e7);clear hI e7 HV6 HO6;go_wp2_with (fail);refine (qcB M0 jb ja jk jp 0 v7 (mb0 _) HI.out).mono ?_;rintro e v8 ⟨y2,rfl,hy,e8⟩;have HO8:=Lib.hid (HO7.out.ext e8);have HR8:Hid (CRx M0 v8 4 y2 [(0,Mo.zero)]):=hy.up (by decide);have HV8:=Lib.hid (HV7.out.trans e8);clear hy e8 HI HV7 HO7
 go_upto_region 20 with (fail)
 obtain ⟨W20,hW⟩ : ∃ W20,W20=(v8.alloc (.cells #[.int .i64 y1.lv,.bool y1.b,.slice y1.a y1.n y1.p,.slice y1.ka y1.kn y1.kp] 33)).alloc (.cells #[.int .i64 y2.lv,.bool y2.b,.slice y2.a y2.n y2.p,.slice y2.ka y2.kn y2.kp] 33):=⟨_,rfl⟩
 have eb:Ext v8 W20:=by rw [hW];exact ((Ext.refl v8).alloc _).alloc _
 obtain ⟨g1,hg1⟩ : ∃ g1,g1=v8.heap.size:=⟨_,rfl⟩
 have HP20:Hid (SBr g1 y1 y2 W20):=by rw [hW,hg1];exact qc7 v8 y1 y2
 have ed:=HV8.out.trans eb;have HS20:Hid (SJ3 ga gb gc xa xb xc W20):=HS4'.out.ext ed;replace HA:=Lib.hid (HA.out.ext ed);replace HB:=Lib.hid (HB.out.ext ed);replace HC:=Lib.hid (HC.out.ext ed);have HO:=Lib.hid (HO8.out.ext eb);have HR:=Lib.hid (HR8.out.ext eb);have HW20:=Lib.hid (HW4.out.trans ed);rw [<- hW,<- hg1];clear hW hg1 eb ed HS4' HO8 HR8 HV8 HW4;obtain ⟨⟨x0,x1,x2,x3⟩,⟨y0',y1',y2',y3'⟩,z0,z1,z2,z3⟩:=HS20.out;obtain ⟨⟨o0,o1,o2,o3⟩,r0,r1,r2,r3⟩:=HP20.out;have hkr:=krow3 (P:=P2 a b c) HC.out HB.out HA.out;have ea:Ext W20 (W20.alloc (.cells #[.int .i64 xc.lv,.bool xc.b,.slice xc.a xc.n xc.p,.slice xc.ka xc.kn xc.kp,.int .i64 xb.lv,.bool xb.b,.slice xb.a xb.n xb.p,.slice xb.ka xb.kn xb.kp,.int .i64 xa.lv,.bool xa.b,.slice xa.a xa.n xa.p,.slice xa.ka xa.kn xa.kp] 33)):=(Ext.refl _).alloc _;obtain ⟨WA,hWA⟩ : ∃ WA,WA=W20.alloc (.cells #[.int .i64 xc.lv,.bool xc.b,.slice xc.a xc.n xc.p,.slice xc.ka xc.kn xc.kp,.int .i64 xb.lv,.bool xb.b,.slice xb.a xb.n xb.p,.slice xb.ka xb.kn xb.kp,.int .i64 xa.lv,.bool xa.b,.slice xa.a xa.n xa.p,.slice xa.ka xa.kn xa.kp] 33):=⟨_,rfl⟩;rw [<- hWA] at hkr ea;have CJ:=Lib.hid (HM.out.j3 WA _ hkr);have HEA:=Lib.hid ea;have HWA:=Lib.hid hWA;clear hkr ea hWA;go_wp2_with (fail);rw [<- HWA.out];refine CJ.out.mono ?_;rintro e t1 ⟨j1,rfl,hj,e1⟩;have HJ1:=Lib.hid hj;have HE1:=Lib.hid (HEA.out.trans e1);clear hj e1 CJ HWA HEA x0 x1 x2 x3 y0' y1' y2' y3' z0 z1 z2 z3 o0 o1 o2 o3 r0 r1 r2 r3;go_wp2_with (fail);refine (HM.out.d3 t1 j1 HJ1.out).mono ?_;rintro e t2 ⟨e2,rfl,hd,e2⟩
 have HD2:=Lib.hid hd;have HE2:=Lib.hid (HE1.out.trans e2);clear hd e2 HJ1 HE1 WA
 go_upto_region 21 with (fail)
 obtain ⟨W21,hW⟩ : ∃ W21,W21=t2.alloc (.cells #[.int .i64 e2.lv,.bool e2.b,.slice e2.a e2.n e2.p,.slice e2.ka e2.kn e2.kp] 33):=⟨_,rfl⟩
 have eb:Ext t2 W21:=by rw [hW];exact (Ext.refl _).alloc _
 obtain ⟨ge2,hg⟩ : ∃ ge2,ge2=t2.heap.size:=⟨_,rfl⟩
 have HPe2:Hid (P4 W21 ge2 e2):=by rw [hW,hg];exact (Blk.of_arr t2 (peA e2) 33 4 rfl).p4
 have HXe2:=Lib.hid (HD2.out.ext eb);have ed:=HE2.out.trans eb;replace HS20:Hid (SJ3 ga gb gc xa xb xc W21):=HS20.out.ext ed;replace HP20:Hid (SBr g1 y1 y2 W21):=HP20.out.ext ed;replace HA:=Lib.hid (HA.out.ext ed);replace HB:=Lib.hid (HB.out.ext ed);replace HC:=Lib.hid (HC.out.ext ed);replace HO:=Lib.hid (HO.out.ext ed);replace HR:=Lib.hid (HR.out.ext ed);replace HW20:=Lib.hid (HW20.out.trans ed);rw [<- hW,<- hg];clear hW hg eb ed HD2 HE2;obtain ⟨⟨x0,x1,x2,x3⟩,⟨y0',y1',y2',y3'⟩,z0,z1,z2,z3⟩:=HS20.out;obtain ⟨⟨o0,o1,o2,o3⟩,r0,r1,r2,r3⟩:=HP20.out;have hkr:=krow4 (P:=P3 b c) HC.out HB.out HR.out HO.out;have ea:Ext W21 (W21.alloc (.cells #[.int .i64 xc.lv,.bool xc.b,.slice xc.a xc.n xc.p,.slice xc.ka xc.kn xc.kp,.int .i64 xb.lv,.bool xb.b,.slice xb.a xb.n xb.p,.slice xb.ka xb.kn xb.kp,.int .i64 y2.lv,.bool y2.b,.slice y2.a y2.n y2.p,.slice y2.ka y2.kn y2.kp,.int .i64 y1.lv,.bool y1.b,.slice y1.a y1.n y1.p,.slice y1.ka y1.kn y1.kp] 33)):=(Ext.refl _).alloc _;obtain ⟨WA,hWA⟩ : ∃ WA,WA=W21.alloc (.cells #[.int .i64 xc.lv,.bool xc.b,.slice xc.a xc.n xc.p,.slice xc.ka xc.kn xc.kp,.int .i64 xb.lv,.bool xb.b,.slice xb.a xb.n xb.p,.slice xb.ka xb.kn xb.kp,.int .i64 y2.lv,.bool y2.b,.slice y2.a y2.n y2.p,.slice y2.ka y2.kn y2.kp,.int .i64 y1.lv,.bool y1.b,.slice y1.a y1.n y1.p,.slice y1.ka y1.kn y1.kp] 33):=⟨_,rfl⟩;rw [<- hWA] at hkr ea;have CJ:=Lib.hid (HM.out.j4 WA _ hkr);have HEA:=Lib.hid ea;have HWA:=Lib.hid hWA;clear hkr ea hWA;go_wp2_with (fail);rw [<- HWA.out];refine CJ.out.mono ?_
 rintro e t1 ⟨j1,rfl,hj,e1⟩;have HJ1:=Lib.hid hj;have HE1:=Lib.hid (HEA.out.trans e1);clear hj e1 CJ HWA HEA x0 x1 x2 x3 y0' y1' y2' y3' z0 z1 z2 z3 o0 o1 o2 o3 r0 r1 r2 r3;go_wp2_with (fail);refine (HM.out.d4 t1 j1 HJ1.out).mono ?_;rintro e t2 ⟨e3,rfl,hd,e2⟩;have HD2:=Lib.hid hd;have HE2:=Lib.hid (HE1.out.trans e2);clear hd e2 HJ1 HE1 WA
 go_upto_region 22 with (fail)
 obtain ⟨W22,hW⟩ : ∃ W22,W22=t2.alloc (.cells #[.int .i64 e3.lv,.bool e3.b,.slice e3.a e3.n e3.p,.slice e3.ka e3.kn e3.kp] 33):=⟨_,rfl⟩
 have eb:Ext t2 W22:=by rw [hW];exact (Ext.refl _).alloc _
 obtain ⟨ge3,hg⟩ : ∃ ge3,ge3=t2.heap.size:=⟨_,rfl⟩
 have HPe3:Hid (P4 W22 ge3 e3):=by rw [hW,hg];exact (Blk.of_arr t2 (peA e3) 33 4 rfl).p4
 have HXe3:=Lib.hid (HD2.out.ext eb);have ed:=HE2.out.trans eb;replace HS20:Hid (SJ3 ga gb gc xa xb xc W22):=HS20.out.ext ed;replace HP20:Hid (SBr g1 y1 y2 W22):=HP20.out.ext ed;replace HA:=Lib.hid (HA.out.ext ed);replace HB:=Lib.hid (HB.out.ext ed);replace HC:=Lib.hid (HC.out.ext ed);replace HO:=Lib.hid (HO.out.ext ed);replace HR:=Lib.hid (HR.out.ext ed);replace HW20:=Lib.hid (HW20.out.trans ed);replace HPe2:Hid (P4 W22 ge2 e2):=HPe2.out.ext ed;replace HXe2:=Lib.hid (HXe2.out.ext ed);rw [<- hW,<- hg];clear hW hg eb ed HD2 HE2;clear HP20 HO HR HM;have hEd:Ext W22 W22.drew:=(Ext.refl _).drew;have HSd:Hid (SJ3 ga gb gc xa xb xc W22.drew):=HS20.out.ext hEd;replace HA:=Lib.hid (HA.out.ext hEd);replace HB:=Lib.hid (HB.out.ext hEd);replace HC:=Lib.hid (HC.out.ext hEd);have HKd:=Lib.hid hEd;clear hEd
 go_cut [21] (D13 (pmul b b ++ pmul (pmul (pmul a c) [(4,Mo.zero)]) [(-1,Mo.zero)]) W22.drew)
 case first=>as_aux_lemma=>
  refine qae (SJ3 ga gb gc xa xb xc) 11 (by kernel_rfl) HSd.out (fun hHeld=>?_);have S0:=S7.start W22.drew;generalize W22.drew=wd at *;have C1:Hid (∀ A B wk,S7 wd wk A B->Calls Tryz.prog 19 #[.agg (peA xb),.agg (peA xb)] wk (qa3 (M7 A B) wk 4 (pmul b b))):=fun A B wk S=>qfB _ xb xb b b 2 2 wk S.mb (S.old HB.out).pi (S.old HB.out).pi (Nat.le_trans (Nat.add_le_add HS3.out.dl HS3.out.dl) (by decide)) HS3.out.deg HS3.out.deg (by decide);have C2:Hid (∀ A B wk,S7 wd wk A B->Calls Tryz.prog 19 #[.agg (peA xa),.agg (peA xc)] wk (qa3 (M7 A B) wk 4 (pmul a c))):=fun A B wk S=>qfB _ xa xc a c 2 2 wk S.mb (S.old HA.out).pi (S.old HC.out).pi (Nat.le_trans (Nat.add_le_add HS2.out.dl HS4.out.dl) (by decide)) HS2.out.deg HS4.out.deg (by decide);have C3:Hid (∀ A B wk,S7 wd wk A B->Calls Tryz.prog 23 #[.int .i64 4] wk fun e w'=>∃ b a n p,e = .returned (.agg #[.bool b,.slice a n p])/\qbt (M7 A B) w' (.bool b) (.slice a n p) 4/\Ext wk w'):=fun A B wk S=>int_ofV _ 4 (by omega) wk S.mb;have C4:Hid (∀ A B wk,S7 wd wk A B -> ∀ q,CRx (M7 A B) wk 4 q (pmul a c) -> ∀ ib ia ik ip,qbt (M7 A B) wk (.bool ib) (.slice ia ik ip) 4->Calls Tryz.prog 26 #[.agg (peA q),.agg #[.bool ib,.slice ia ik ip]] wk (qa3 (M7 A B) wk 4 (pmul (pmul a c) [(4,Mo.zero)]))):=fun A B wk S q hq ib ia ik ip hi=>qf7 _ q _ 4 ib ia ik ip 4 wk S.mb hq.pi hi (sz_b1 HS2.out HS4.out) (HS2.out.prod HS4.out).d (by decide);have C5:Hid (∀ A B wk,S7 wd wk A B -> ∀ p,CRx (M7 A B) wk 4 p (pmul b b) -> ∀ r,CRx (M7 A B) wk 4 r (pmul (pmul a c) [(4,Mo.zero)])->Calls Tryz.prog 25 #[.agg (peA p),.agg (peA r)] wk (qa3 (M7 A B) wk 4 (pmul b b ++ pmul (pmul (pmul a c) [(4,Mo.zero)]) [(-1,Mo.zero)]))):=fun A B wk S p hp r hr=>sub_ok _ p r ((HS3.out.prod HS3.out).mono (Nat.le_refl _) (by decide)) (sz_c (HS2.out.prod HS4.out) 4 (by decide)) (by decide) wk S.mb hp hr
  clear HA HB HC HS2 HS3 HS4 HSd HKd HW20 HPe2 HPe3 HXe2 HXe3 HS20;(refine tkB [0,1,3,4] ?_;(iterate 4 (refine tk1 (oi:=?_) (v:=?_) (by kernel_rfl) (by first | exact hSn | exact hHeld) ?_ ?_ ?_ ?_ ?_;rotate_left 2;(simp only [xgA,xgB,xgC];rfl);rfl;(intro wS hSw;obtain ⟨⟨A1,A2,A3,A4⟩,⟨A5,A6,A7,A8⟩,A9,A10,A11,A12⟩:=hSw;go_simp;try with_reducible rfl);(exact fun _ _ _ h=>h);(try simp only [Act.put,xgD,xgE,xgF])));refine tkE ?_);have SX:=S0;clear S0
  iterate 6
   all_goals first | refine wpAnyU_ls [2,9] (by decide +kernel) (by decide) ?_ | refine wpAnyU_ls [2] (by decide +kernel) (by decide) ?_ | refine wpAnyU_ls [5,9] (by decide +kernel) (by decide) ?_ | refine wpAnyU_ls [5] (by decide +kernel) (by decide) ?_ | refine wpAnyU_ls [6,9] (by decide +kernel) (by decide) ?_ | refine wpAnyU_ls [6] (by decide +kernel) (by decide) ?_ | refine wpAnyU_ls [7,9] (by decide +kernel) (by decide) ?_ | refine wpAnyU_ls [7] (by decide +kernel) (by decide) ?_ | refine wpAnyU_ls [8,9] (by decide +kernel) (by decide) ?_ | refine wpAnyU_ls [8] (by decide +kernel) (by decide) ?_ | refine wpAnyU_ls [9] (by decide +kernel) (by decide) ?_
   all_goals simp only [LsG]
   all_goals repeat' (first | exact trivial | apply And.intro)
   all_goals (intro t o ho K hK;simp only [xgA,xgB,xgC,Option.some.injEq] at ho;subst ho;go_simp;(first | (have _t:Tag 9:=t;clear _t;obtain ⟨v,g,hv,hg,SX,hkp,hki⟩:=SX.nK;rw [hv];(try replace hp:=hkp _ _ hp);(try replace hq:=hkp _ _ hq);(try replace hi:=hki _ _ _ hi);(try replace hr:=hkp _ _ hr);(try replace hs:=hkp _ _ hs);rw [hg];clear hv hg hkp hki) | (have _t:Tag 2:=t;clear _t;refine (C1.out _ _ _ SX).mono ?_;rintro e v ⟨u1,rfl,hp,D⟩;go_wp2_with (fail);replace SX:=SX.call D) | (have _t:Tag 5:=t;clear _t;refine (C2.out _ _ _ SX).mono ?_;rintro e v ⟨u2,rfl,hq,D⟩;go_wp2_with (fail);replace SX:=SX.call D) | (have _t:Tag 6:=t;clear _t;refine (C3.out _ _ _ SX).mono ?_;rintro e v ⟨ib,ia,ik,ip,rfl,hi,D⟩;go_wp2_with (fail);replace SX:=SX.call D) | (have _t:Tag 7:=t;clear _t;refine (C4.out _ _ _ SX _ hq _ _ _ _ hi).mono ?_;rintro e v ⟨u3,rfl,hr,D⟩;go_wp2_with (fail);replace SX:=SX.call D) | (have _t:Tag 8:=t;clear _t;refine (C5.out _ _ _ SX _ hp _ hr).mono ?_;rintro e v ⟨u4,rfl,hs,D⟩;go_wp2_with (fail);replace SX:=SX.call D));(try replace hp:=hp.ext D);(try replace hq:=hq.ext D);(try replace hi:=hi.ext D);(try replace hr:=hr.ext D);(try replace hs:=hs.ext D);(try clear D);clear t;(try clear hSn);have hSn:=hHeld.ext SX.e;refine hK.out _ _ (fun _=>hSn) ?_;clear hK K;(try simp only [Act.put,xgD,xgE,xgF]))
  all_goals (obtain ⟨W1,hW1,⟨q0,q1,q2,q3⟩,⟨f0,f1,f2,f3⟩,HP2⟩:=SX.put1 hs;unfold set4 at hW1;have hSn1:=hHeld.ext HP2.e;clear hSn;(refine qaa 10 (o:=?_) (by kernel_rfl) ?_ ?_;rotate_left 1;(simp only [xgA,xgB,xgC];rfl);intro K hK);go_simp;rw [<- hW1];clear hW1;refine hK.out _ _ (fun _=>hSn1) ?_;clear hK K q0 q1 q2 q3 f0 f1 f2 f3;(try simp only [Act.put,xgD,xgE,xgF]);refine qac (by kernel_rfl) ?_ _;go_wp2_with (fail);go_meet;exact ⟨_,_,rfl,HP2⟩)
 case rest=>
 obtain ⟨g21,e21,rfl,HP⟩:=hcut;have ed:=HKd.out.trans HP.e;replace HS20:Hid (SJ3 ga gb gc xa xb xc wc):=HS20.out.ext ed;have HP21:=Lib.hid HP.p;have HX21:=Lib.hid HP.x;replace HPe2:Hid (P4 wc ge2 e2):=HPe2.out.ext ed;replace HPe3:Hid (P4 wc ge3 e3):=HPe3.out.ext ed;replace HXe2:=Lib.hid (HXe2.out.ext ed);replace HXe3:=Lib.hid (HXe3.out.ext ed);replace HB:=Lib.hid (HB.out.ext HP.e);replace HC:=Lib.hid (HC.out.ext HP.e);replace HW20:=Lib.hid (HW20.out.trans ed);clear HP ed HA HKd HSd;obtain ⟨w23,rfl⟩ : ∃ w23,w23=wc:=⟨_,rfl⟩
 go_upto_region 23 with (fail)
 have hEd:Ext w23 w23.drew:=(Ext.refl _).drew;have HSd:Hid (SJ3 ga gb gc xa xb xc w23.drew):=HS20.out.ext hEd;replace HB:=Lib.hid (HB.out.ext hEd);replace HC:=Lib.hid (HC.out.ext hEd);have HKd:=Lib.hid hEd;clear hEd
 go_cut [22] (D13 (pmul (qaM b 3) [(-4,Mo.zero)] ++ pmul (pmul (pmul c c) [(27,Mo.zero)]) [(-1,Mo.zero)]) w23.drew)
 case first=>as_aux_lemma=>
  refine qae (SJ3 ga gb gc xa xb xc) 12 (by kernel_rfl) HSd.out (fun hHeld=>?_);have S0:=S7.start w23.drew;generalize w23.drew=wd at *;have C1:Hid (∀ A B wk,S7 wd wk A B->Calls Tryz.prog 27 #[.agg (peA xb),.int .i64 3] wk (qa3 (M7 A B) wk 4 (qaM b 3))):=fun A B wk S=>qfD (k:=3) ⟨HS3.out.nn,HS3.out.deg,HS3.out.dl⟩ (by decide) (by decide) (by decide) _ wk xb S.mb (S.old HB.out);have C2:Hid (∀ A B wk,S7 wd wk A B->Calls Tryz.prog 23 #[.int .i64 (-4)] wk fun e w'=>∃ b a n p,e = .returned (.agg #[.bool b,.slice a n p])/\qbt (M7 A B) w' (.bool b) (.slice a n p) (-4)/\Ext wk w'):=fun A B wk S=>int_ofV _ (-4) (by omega) wk S.mb;have C3:Hid (∀ A B wk,S7 wd wk A B -> ∀ q,CRx (M7 A B) wk 4 q (qaM b 3) -> ∀ ib ia ik ip,qbt (M7 A B) wk (.bool ib) (.slice ia ik ip) (-4)->Calls Tryz.prog 26 #[.agg (peA q),.agg #[.bool ib,.slice ia ik ip]] wk (qa3 (M7 A B) wk 4 (pmul (qaM b 3) [(-4,Mo.zero)]))):=fun A B wk S q hq ib ia ik ip hi=>qf7 _ q _ 6 ib ia ik ip (-4) wk S.mb hq.pi hi (sz_b3 HS3.out) (sz_p3 HS3.out).d (by decide);have C4:Hid (∀ A B wk,S7 wd wk A B->Calls Tryz.prog 19 #[.agg (peA xc),.agg (peA xc)] wk (qa3 (M7 A B) wk 4 (pmul c c))):=fun A B wk S=>qfB _ xc xc c c 2 2 wk S.mb (S.old HC.out).pi (S.old HC.out).pi (Nat.le_trans (Nat.add_le_add HS4.out.dl HS4.out.dl) (by decide)) HS4.out.deg HS4.out.deg (by decide);have C5:Hid (∀ A B wk,S7 wd wk A B->Calls Tryz.prog 23 #[.int .i64 27] wk fun e w'=>∃ b a n p,e = .returned (.agg #[.bool b,.slice a n p])/\qbt (M7 A B) w' (.bool b) (.slice a n p) 27/\Ext wk w'):=fun A B wk S=>int_ofV _ 27 (by omega) wk S.mb
  have C6:Hid (∀ A B wk,S7 wd wk A B -> ∀ q,CRx (M7 A B) wk 4 q (pmul c c) -> ∀ ib ia ik ip,qbt (M7 A B) wk (.bool ib) (.slice ia ik ip) 27->Calls Tryz.prog 26 #[.agg (peA q),.agg #[.bool ib,.slice ia ik ip]] wk (qa3 (M7 A B) wk 4 (pmul (pmul c c) [(27,Mo.zero)]))):=fun A B wk S q hq ib ia ik ip hi=>qf7 _ q _ 4 ib ia ik ip 27 wk S.mb hq.pi hi (sz_b2 HS4.out HS4.out) (HS4.out.prod HS4.out).d (by decide);have C7:Hid (∀ A B wk,S7 wd wk A B -> ∀ p,CRx (M7 A B) wk 4 p (pmul (qaM b 3) [(-4,Mo.zero)]) -> ∀ r,CRx (M7 A B) wk 4 r (pmul (pmul c c) [(27,Mo.zero)])->Calls Tryz.prog 25 #[.agg (peA p),.agg (peA r)] wk (qa3 (M7 A B) wk 4 (pmul (qaM b 3) [(-4,Mo.zero)] ++ pmul (pmul (pmul c c) [(27,Mo.zero)]) [(-1,Mo.zero)]))):=fun A B wk S p hp r hr=>sub_ok _ p r (sz_c (sz_p3 HS3.out) (-4) (by decide)) (sz_c (HS4.out.prod HS4.out) 27 (by decide)) (by decide) wk S.mb hp hr;clear HB HC HS2 HS3 HS4 HSd HKd HW20 HPe2 HPe3 HXe2 HXe3 HS20 HP21 HX21;(refine tkB [0,4,5] ?_;(iterate 3 (refine tk1 (oi:=?_) (v:=?_) (by kernel_rfl) (by first | exact hSn | exact hHeld) ?_ ?_ ?_ ?_ ?_;rotate_left 2;(simp only [xgA,xgB,xgC];rfl);rfl;(intro wS hSw;obtain ⟨⟨A1,A2,A3,A4⟩,⟨A5,A6,A7,A8⟩,A9,A10,A11,A12⟩:=hSw;go_simp;try with_reducible rfl);(exact fun _ _ _ h=>h);(try simp only [Act.put,xgD,xgE,xgF])));refine tkE ?_);have SX:=S0;clear S0
  iterate 8
   all_goals first | refine wpAnyU_ls [1,10] (by decide +kernel) (by decide) ?_ | refine wpAnyU_ls [1] (by decide +kernel) (by decide) ?_ | refine wpAnyU_ls [2,10] (by decide +kernel) (by decide) ?_ | refine wpAnyU_ls [2] (by decide +kernel) (by decide) ?_ | refine wpAnyU_ls [3,10] (by decide +kernel) (by decide) ?_ | refine wpAnyU_ls [3] (by decide +kernel) (by decide) ?_ | refine wpAnyU_ls [6,10] (by decide +kernel) (by decide) ?_ | refine wpAnyU_ls [6] (by decide +kernel) (by decide) ?_ | refine wpAnyU_ls [7,10] (by decide +kernel) (by decide) ?_ | refine wpAnyU_ls [7] (by decide +kernel) (by decide) ?_ | refine wpAnyU_ls [8,10] (by decide +kernel) (by decide) ?_ | refine wpAnyU_ls [8] (by decide +kernel) (by decide) ?_ | refine wpAnyU_ls [9,10] (by decide +kernel) (by decide) ?_ | refine wpAnyU_ls [9] (by decide +kernel) (by decide) ?_ | refine wpAnyU_ls [10] (by decide +kernel) (by decide) ?_
   all_goals simp only [LsG]
   all_goals repeat' (first | exact trivial | apply And.intro)
   all_goals (intro t o ho K hK;simp only [xgA,xgB,xgC,Option.some.injEq] at ho;subst ho;go_simp;(first | (have _t:Tag 10:=t;clear _t;obtain ⟨v,g,hv,hg,SX,hkp,hki⟩:=SX.nK;rw [hv];(try replace hp:=hkp _ _ hp);(try replace hi:=hki _ _ _ hi);(try replace hq:=hkp _ _ hq);(try replace hr:=hkp _ _ hr);(try replace hj:=hki _ _ _ hj);(try replace hs:=hkp _ _ hs);(try replace ht:=hkp _ _ ht);rw [hg];clear hv hg hkp hki) | (have _t:Tag 1:=t;clear _t;refine (C1.out _ _ _ SX).mono ?_;rintro e v ⟨u1,rfl,hp,D⟩;go_wp2_with (fail);replace SX:=SX.call D) | (have _t:Tag 2:=t;clear _t;refine (C2.out _ _ _ SX).mono ?_;rintro e v ⟨ib,ia,ik,ip,rfl,hi,D⟩;go_wp2_with (fail);replace SX:=SX.call D) | (have _t:Tag 3:=t;clear _t;refine (C3.out _ _ _ SX _ hp _ _ _ _ hi).mono ?_;rintro e v ⟨u2,rfl,hq,D⟩;go_wp2_with (fail);replace SX:=SX.call D) | (have _t:Tag 6:=t;clear _t;refine (C4.out _ _ _ SX).mono ?_;rintro e v ⟨u3,rfl,hr,D⟩;go_wp2_with (fail);replace SX:=SX.call D) | (have _t:Tag 7:=t;clear _t;refine (C5.out _ _ _ SX).mono ?_;rintro e v ⟨jb,ja,jk,jp,rfl,hj,D⟩;go_wp2_with (fail);replace SX:=SX.call D) | (have _t:Tag 8:=t;clear _t;refine (C6.out _ _ _ SX _ hr _ _ _ _ hj).mono ?_;rintro e v ⟨u4,rfl,hs,D⟩;go_wp2_with (fail);replace SX:=SX.call D) | (have _t:Tag 9:=t;clear _t;refine (C7.out _ _ _ SX _ hq _ hs).mono ?_;rintro e v ⟨u5,rfl,ht,D⟩;go_wp2_with (fail);replace SX:=SX.call D));(try replace hp:=hp.ext D);(try replace hi:=hi.ext D);(try replace hq:=hq.ext D);(try replace hr:=hr.ext D);(try replace hj:=hj.ext D);(try replace hs:=hs.ext D);(try replace ht:=ht.ext D);(try clear D);clear t;(try clear hSn);have hSn:=hHeld.ext SX.e;refine hK.out _ _ (fun _=>hSn) ?_;clear hK K;(try simp only [Act.put,xgD,xgE,xgF]))
  all_goals (obtain ⟨W1,hW1,⟨q0,q1,q2,q3⟩,⟨f0,f1,f2,f3⟩,HP2⟩:=SX.put1 ht;unfold set4 at hW1;have hSn1:=hHeld.ext HP2.e;clear hSn;(refine qaa 11 (o:=?_) (by kernel_rfl) ?_ ?_;rotate_left 1;(simp only [xgA,xgB,xgC];rfl);intro K hK);go_simp;rw [<- hW1];clear hW1;refine hK.out _ _ (fun _=>hSn1) ?_;clear hK K q0 q1 q2 q3 f0 f1 f2 f3;(try simp only [Act.put,xgD,xgE,xgF]);refine qac (by kernel_rfl) ?_ _;go_wp2_with (fail);go_meet;exact ⟨_,_,rfl,HP2⟩)
 case rest=>
 obtain ⟨g22,e22,rfl,HP⟩:=hcut;have ed:=HKd.out.trans HP.e;have HQ1:Hid (SQ2 ge2 g21 e2 e21 wc):=⟨HPe2.out.ext ed,HP21.out.ext ed⟩;have HQ2:Hid (SQ2 ge3 g22 e3 e22 wc):=⟨HPe3.out.ext ed,HP.p⟩;have HY2:=Lib.hid HP.x;replace HX21:=Lib.hid (HX21.out.ext ed);replace HXe2:=Lib.hid (HXe2.out.ext ed);replace HXe3:=Lib.hid (HXe3.out.ext ed);replace HW20:=Lib.hid (HW20.out.trans ed);clear HP ed HB HC HKd HSd HPe2 HPe3 HP21 HS20 HS2 HS3 HS4;obtain ⟨⟨x0,x1,x2,x3⟩,y0,y1',y2',y3⟩:=HQ1.out;go_wp2_with (fail);refine (qoi e2 e21 _ _ wc true HXe2.out.pi HX21.out.pi (by simp [Sim.refl])).mono ?_;rintro e t1 ⟨rfl,e1⟩;have HE1:=Lib.hid e1;clear e1 x0 x1 x2 x3 y0 y1' y2' y3;obtain ⟨⟨x0,x1,x2,x3⟩,y0,y1',y2',y3⟩:=HQ2.out.ext HE1.out;go_wp2_with (fail);refine (qoi e3 e22 _ _ t1 true (HXe3.out.ext HE1.out).pi (HY2.out.ext HE1.out).pi (by simp [Sim.refl])).mono ?_;rintro e t2 ⟨rfl,e2⟩;have HF:=Lib.hid (HW20.out.trans (HE1.out.trans e2));clear e2 x0 x1 x2 x3 y0 y1' y2' y3;go_wp2;go_ret;exact ⟨rfl,HF.out⟩
end Go.Proofs.YtlmipmebdelgbaaGreat

namespace Go.Proofs.YtlmipmebdelgbaaGreat
open Go.ChangeShapes Go.WideShapes Go.ChangeAt Go.RowKit Go.Deep

section
variable {H:Type} {enc:TypeId × Value->H} {W:World}
set_option linter.constructorNameAsVariable false in
theorem open_poly3 {base:Nat} {v:Value} {d:DataW H} {ps:List MemPlace} (hv:Value.okWide Tryz.prog W .any base 24 v) (h:DataW.Trod enc Tryz.prog W 0 (fun _=>true) true 24 v d ps) : ∃ a n c X a' n' c' X' b k e Y,v = .agg #[.slice a n c,.slice a' n' c',.slice b k e]/\qqA W a n c X/\qqA W a' n' c' X'/\qqA W b k e Y:=by
 obtain ⟨fuel,h⟩:=h;have hu:=Tryz.underlying24;unfold Value.okWide at hv;rw [hu] at hv;obtain ⟨cs,rfl,hcs,ts,hts,_,hrow⟩:=hv;rw [show Tryz.prog.cellsOf 24=3 by kernel_rfl] at hcs
 obtain ⟨v0,v1,v2,rfl⟩ : ∃ v0 v1 v2,cs = #[v0,v1,v2]:=by
  obtain ⟨l⟩:=cs
  match l,hcs with
  | [v0,v1,v2],_=>exact ⟨v0,v1,v2,rfl⟩
 have h':DataW.trod enc Tryz.prog W 0 (fun _=>true) true fuel 24 [v0,v1,v2]=some (d,ps):=h;obtain ⟨xs,q,_,_,_,hxl,hx⟩:=DataW.trod_array hu h'
 have hce:Tryz.prog.cellsOf 23=1:=by kernel_rfl
 rw [hce] at hx
 have key : ∀ i,i<3 -> ∃ y,DataW.trod enc Tryz.prog W 0 (fun _=>true) true q 23 (([v0,v1,v2].drop (i*1)).take 1)=some y:=fun i hi=>by
  rw [hx i hi,List.getElem?_eq_getElem (by omega)];exact ⟨_,rfl⟩
 obtain ⟨y0,e0⟩:=key 0 (by omega);obtain ⟨y1,e1⟩:=key 1 (by omega);obtain ⟨y2,e2⟩:=key 2 (by omega);obtain rfl:=Option.some.inj (hts.symm.trans (show _=some [23,23,23] by kernel_rfl))
 have hp : ∀ i v y,i<3 -> #[v0,v1,v2][i]? = some v->DataW.trod enc Tryz.prog W 0 (fun _=>true) true q 23 [v]=some y -> ∃ a n cap X,v = .slice a n cap/\qqA W a n cap X:=fun i v y hi hv e=>by
  obtain ⟨u,hu1,hc⟩:=hrow i v hv
  have hu2:u=23:=by
   match i,hi with
   | 0,_=>simpa using hu1.symm
   | 1,_=>simpa using hu1.symm
   | 2,_=>simpa using hu1.symm
  subst hu2
  have hw:Value.okWide Tryz.prog W .any base 23 v:=by unfold Value.okWide;rw [Tryz.underlying23];exact hc
  obtain ⟨a,n,c,rfl⟩:=okWide_slice Tryz.underlying23 hw;exact qg7 (d:=y.1) (ps:=y.2) hw ⟨q,e⟩
 obtain ⟨a,n,c,X,rfl,h1⟩:=hp 0 v0 _ (by omega) rfl e0;obtain ⟨a',n',c',X',rfl,h2⟩:=hp 1 v1 _ (by omega) rfl e1;obtain ⟨b,k,e,Y,rfl,h3⟩:=hp 2 v2 _ (by omega) rfl e2;exact ⟨a,n,c,X,a',n',c',X',b,k,e,Y,rfl,h1,h2,h3⟩
end
namespace resultantDiscriminant
theorem own:ownKnob Tryz.prog.godebug=none:=by kernel_rfl
theorem contract (H : Type) (enc : TypeId × Value -> H) (W : World) (base : Nat) (args : Array Value) (ds gs : List (DataW H)) (before : List MemPlace)
  (hval : ∀ (j:Nat) t v,Tryz.f3.params[j]? = some t->args[j]? = some v->Value.okWide Tryz.prog W .any base t v)
  (hW:DataW.Whole enc Tryz.prog Tryz.f3.params.toList Rows.resultantDiscriminantSpec.vars false W args.toList ds gs before) :
  Calls Tryz.prog 3 args W fun e W'=>∃ v,e = .returned v/\Rows.resultantDiscriminantSpec.post enc Tryz.prog Tryz.f3 false true false false W args v W':=by
 have hW':=hW;obtain ⟨p,q,hA0,hV,rfl,hfz,hnd⟩:=hW;have hA:DataW.TrodAll enc Tryz.prog W 0 (fun _=>true) true Tryz.f3.params.toList args.toList ds p:=hA0;rw [Tryz.params3] at hA hval;obtain ⟨v0,vs0,d0,ds0,p0,q0,hargs,rfl,rfl,h0,r0⟩:=trodAll_cons hA;obtain ⟨v1,vs1,d1,ds1,p1,q1,rfl,rfl,rfl,h1,r1⟩:=trodAll_cons r0;obtain ⟨v2,vs2,d2,ds2,p2,q2,rfl,rfl,rfl,h2,r2⟩:=trodAll_cons r1;obtain ⟨rfl,rfl,rfl⟩:=trodAll_nil r2
 obtain rfl:args = #[v0,v1,v2]:=by cases args;simp_all
 obtain ⟨rfl,rfl⟩:=trodVars_none hV;obtain ⟨a0,n0,c0,X0,rfl,g0⟩:=qg7 (hval 0 23 v0 rfl rfl) h0;obtain ⟨a1,n1,c1,X1,b1,k1,e1,Y1,l1,m1,s1,Z1,rfl,g1,f1,i1⟩:=open_poly3 (hval 1 24 v1 rfl rfl) h1;obtain ⟨z2,rfl,g2⟩:=qnk (hval 2 3 v2 rfl rfl) h2;refine (law_disc26 a0 n0 c0 X0 a1 n1 c1 X1 b1 k1 e1 Y1 l1 m1 s1 Z1 z2 W g0 g1 f1 i1 ).mono fun e W' ⟨he,hg⟩=>?_;subst he;refine ⟨_,rfl,qli (tb:=4) (by kernel_rfl) ?_ rfl rfl (by kernel_rfl) Tryz.underlying4 hW' hg⟩;rw [Tryz.params3];intro t ht;simp only [List.mem_cons,List.not_mem_nil,or_false,or_self,or_self_left] at ht;rcases ht with rfl | rfl | rfl
 ·exact ⟨by kernel_rfl,of_decide_eq_true (by kernel_rfl)⟩
 ·exact ⟨by kernel_rfl,of_decide_eq_true (by kernel_rfl)⟩
 ·exact ⟨by kernel_rfl,of_decide_eq_true (by kernel_rfl)⟩
theorem lifted (os : Os) (started : os.Started) (H : Type) (enc : TypeId × Value -> H) :
  ReturnsInHanded {} Tryz.checked os 3 .any (Rows.resultantDiscriminantSpec.pre6 enc Tryz.prog Tryz.f3 Rows.resultantDiscriminantRow.domain false) (Rows.resultantDiscriminantSpec.post enc Tryz.prog Tryz.f3 false true false false):=by
 refine returnsInHanded_of_change (C:=Tryz.checked) own started (by kernel_rfl) Tryz.func3
  (ChangeSpec.witness6 (enc:=enc) (C:=Tryz.checked) false ⟨#[],#[.slice none 0 0,.agg #[.slice none 0 0,.slice none 0 0,.slice none 0 0],.int .i64 0],[]⟩ 8 (by kernel_rfl) (by kernel_rfl) (by kernel_rfl) (by kernel_rfl)) ?_
 intro W base args ds gs before hval hW _ _;exact contract H enc W base args ds gs before hval hW
theorem kInp:(Rows.resultantDiscriminantRow.inPlace == Tryz.pinned.checked.prog.inPlace 3)=true:=by kernel_rfl
theorem kUnf:(Rows.resultantDiscriminantRow.unfollowed == Tryz.pinned.checked.prog.unfollowed 3)=true:=by kernel_rfl
theorem kRec:(Rows.resultantDiscriminantRow.recurses == Tryz.pinned.checked.prog.recurses 3)=true:=by kernel_rfl
theorem kNam:(Rows.resultantDiscriminantRow.named == Tryz.pinned.checked.prog.varsNamed 3)=true:=by kernel_rfl
theorem kLaid:laidOutB Tryz.pinned.checked.prog=true:=by kernel_rfl
theorem closed:joinedFacts Tryz.pinned.checked.prog 3 Tryz.f3 Rows.resultantDiscriminantSpec Rows.resultantDiscriminantRow=true:=by
 unfold joinedFacts;rw [kInp,kUnf,kRec,kNam,kLaid]
 kernel_rfl
theorem proved:Rows.ResultantDiscriminantSaid:=
 OpenClaim.holds_of_wide (p:=Tryz.pinned) (s:=Rows.resultantDiscriminantSpec) (c:=Rows.resultantDiscriminantRow) 3 Tryz.f3 rfl rfl rfl rfl rfl rfl rfl ⟨rfl,rfl,rfl,rfl,rfl⟩ rfl rfl rfl rfl rfl (by kernel_rfl) Tryz.func3 closed
  (of_decide_eq_true (by kernel_rfl)) (by unfold Func.isWrapper;first | (rw [if_pos (by decide +kernel)];kernel_rfl) | (rw [if_neg (by decide +kernel)];exact ⟨rfl,rfl⟩))
  (fun os started H enc _=>lifted os started H enc)
end resultantDiscriminant
end Go.Proofs.YtlmipmebdelgbaaGreat
