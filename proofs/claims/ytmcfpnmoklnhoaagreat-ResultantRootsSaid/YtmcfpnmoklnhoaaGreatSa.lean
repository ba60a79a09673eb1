/- subresultant.descend: what it computes, step by step; the boxes of its loop. subresultant.descend: the walk, at any degrees. Subresultants of polynomials of small degree, plain: what the calls of descend give. Subresultants of polynomials of degree 1 and 2, plain: the run of descend. Subresultants of polynomials of degree 1 and 2: sizes, and that descend runs to them. The subresultants of polynomials of degree 1 and 2 are what descend makes, and the determinants of the minors. The coefficients of the subresultants of polynomials of degree 1 and 2 are the determinants of the minors. -/
import Derived.Test.YtmcfpnmoklnhoaaGreatRf
set_option linter.unusedVariables false
set_option maxRecDepth 100000
set_option maxHeartbeats 400000000
set_option linter.unusedSimpArgs false

namespace Go.Proofs.YtmcfpnmoklnhoaaGreat
open Go.RowKit

def qrx (J:Nat) (a l:List Tm):Prop:=∀ (M:Nat->Prop) (W:World) (x:PE),Mb M W->CRx M W 4 x a->Calls Tryz.prog 117 #[.agg (peA x),.int .i64 (J:Int)] W (qa8 M W 4 l)
def qs7 (J:Nat) (a:List Tm) (z:Int):Prop:=∀ (M:Nat->Prop) (W:World) (x:PE),Mb M W->CRx M W 4 x a->Calls Tryz.prog 43 #[.agg (peA x),.int .i64 (J:Int)] W fun e w'=>e = .returned (.int .i64 z)/\Ext W w'
def qrE (l:List Tm) (k:Nat) (s:List Tm):Prop:=∀ (M:Nat->Prop) (W:World) (x:PE),Mb M W->CRx M W 4 x l->Calls Tryz.prog 53 #[.agg (peA x),.int .i64 (k:Int)] W (qa8 M W 4 s)
def qtc (a b c:List Tm):Prop:=∀ (M:Nat->Prop) (W:World) (x y:PE),Mb M W->CRx M W 4 x a->CRx M W 4 y b->Calls Tryz.prog 55 #[.agg (peA x),.agg (peA y)] W (qa8 M W 4 c)
def qtb (a b c:List Tm):Prop:=∀ (M:Nat->Prop) (W:World) (x y:PE),Mb M W->CRx M W 4 x a->CRx M W 4 y b->Calls Tryz.prog 196 #[.agg (peA x),.agg (peA y)] W (qa8 M W 4 c)
def qrt (J:Nat) (a b r:List Tm):Prop:=∀ (M:Nat->Prop) (W:World) (x y:PE),Mb M W->CRx M W 4 x a->CRx M W 4 y b->Calls Tryz.prog 195 #[.agg (peA x),.agg (peA y),.int .i64 (J:Int)] W (qa8 M W 4 r)
def qnE (L:Nat->List Tm) (i:Nat) (b:List Tm):Nat->List Tm:=fun j=>if j=i then b else L j
def CPh (J:Nat) (b s:List Tm) (gap e:Nat) (L L':Nat->List Tm) (c:List Tm):Prop:=
 (gap=1/\c=b/\L'=L)∨(1<gap/\L'=qnE L e c /\ ∃ lb p c0 q,qrx J b lb/\qrE lb (gap - 1) p/\qtc p b c0/\qrE s (gap - 1) q/\qtb c0 q c)
def qs8 (J n:Nat) (F:Nat->List Tm):Nat->List Tm->List Tm->List Tm->(Nat->List Tm)->Prop
 | 0,_,_,_,_=>False
 | k + 1, a, b, s, L => ∃ d : Int, qs7 J a d /\ -1 <= d /\ d <= 1000 /\ ((qs7 J b (-1) /\ ∀ i, i < n -> Sim (L i) (F i)) ∨ ∃ (dn e : Nat) (c : List Tm) (L' : Nat -> List Tm), d = (dn : Int) /\ qs7 J b (e : Int) /\ e < dn /\ dn <= n /\ CPh J b s (dn - e) e (qnE L (dn - 1) b) L' c /\
   ((e=0 /\ ∀ i,i<n->Sim (L' i) (F i))∨(0<e /\ ∃ s1 la dv r b' s',qrE s (dn - e) s1/\qrx J a la/\qtc s1 la dv/\qrt J a b r/\qtb r dv b'/\qrx J c s'/\qs8 J n F k c b' s' L')))
structure qfH (M:Nat->Prop) (w:World) (g:Nat) (z:PE) (l:List Tm):Prop where
 b:Blk w g 33 4 (arr (peA z))
 x:CRx M w 4 z l
theorem qfH.ext {M:Nat->Prop} {w w':World} {g:Nat} {z:PE} {l:List Tm} (h:qfH M w g z l) (he:Ext w w'):qfH M w' g z l:=⟨h.b.ext he,h.x.ext he⟩
theorem qfH.more {M M':Nat->Prop} {w:World} {g:Nat} {z:PE} {l:List Tm} (h:qfH M w g z l) (hm : ∀ b,M' b->M b∨w.heap.size<=b):qfH M' w g z l:=⟨h.b,h.x.more hm⟩
theorem qfH.other {M:Nat->Prop} {w w':World} {g:Nat} {z:PE} {l:List Tm} (h:qfH M w g z l) (hk:Kp M w w') (hh:w'.heap[g]? = w.heap[g]?):qfH M w' g z l:=⟨h.b.of_heap hh,h.x.kp hk⟩
theorem qfH.put {M:Nat->Prop} {w:World} {g:Nat} {z u:PE} {l r:List Tm} (h:qfH M w g z l) (hg:M g) (hu:CRx M w 4 u r):qfH M (set4 w g 0 (.int .i64 u.lv) (.bool u.b) (.slice u.a u.n u.p) (.slice u.ka u.kn u.kp)) g u r:=
 ⟨qdB h.b u,hu.kp (Kp.set4 hg _ _ _ _ _)⟩
theorem qfH.lt {M:Nat->Prop} {w:World} {g:Nat} {z:PE} {l:List Tm} (h:qfH M w g z l):g<w.heap.size:=h.b.lt
structure DSt (M:Nat->Prop) (w:World) (n gt g12 g13 g14:Nat) (MW:Nat->Prop) (wr:World) (a b s:List Tm) (L:Nat->List Tm) (za zb zs:PE):Prop where
 A:qfH MW wr g13 za a
 B:qfH MW wr g14 zb b
 S:qfH MW wr g12 zs s
 L:qax MW wr 4 gt n L
 m:Mb MW wr
 e:Ext w wr
 sub : ∀ b,M b->MW b
 sup : ∀ b,MW b->M b∨w.heap.size<=b
 mt:MW gt
 m2:MW g12
 m3:MW g13
 m4:MW g14
def qnz (w:World) (gt g12 g13 g14:Nat):Prop:=(gt≠g12/\gt≠g13/\gt≠g14/\g12≠g13/\g12≠g14/\g13≠g14)/\w.heap.size<=gt/\w.heap.size<=g12/\w.heap.size<=g13/\w.heap.size<=g14
section
variable {M:Nat->Prop} {w:World} {n gt g12 g13 g14:Nat} {MW:Nat->Prop} {wr:World} {a b s:List Tm} {L:Nat->List Tm} {za zb zs:PE}
theorem DSt.ext (h:DSt M w n gt g12 g13 g14 MW wr a b s L za zb zs) {w':World} (he:Ext wr w'):DSt M w n gt g12 g13 g14 MW w' a b s L za zb zs:=
 ⟨h.A.ext he,h.B.ext he,h.S.ext he,h.L.ext he,h.m.ext he,h.e.trans he,h.sub,h.sup,h.mt,h.m2,h.m3,h.m4⟩
theorem DSt.more (h:DSt M w n gt g12 g13 g14 MW wr a b s L za zb zs) {w':World} (he:Ext wr w') {g:Nat} (hg:wr.heap.size<=g) (hg':g<w'.heap.size):DSt M w n gt g12 g13 g14 (fun q=>MW q∨q=g) w' a b s L za zb zs:=by
 have hm : ∀ q,(MW q∨q=g)->MW q∨wr.heap.size<=q:=fun q hq=>hq.imp id fun e=>by omega
 exact ⟨(h.A.more hm).ext he,(h.B.more hm).ext he,(h.S.more hm).ext he,(h.L.more hm).ext he,qb9 (h.m.ext he) hg',h.e.trans he,fun q hq=>.inl (h.sub q hq),fun q hq=>hq.elim (h.sup q) fun e=>.inr (by have:=h.e.size;omega),.inl h.mt,.inl h.m2,.inl h.m3,.inl h.m4⟩
theorem DSt.list (h:DSt M w n gt g12 g13 g14 MW wr a b s L za zb zs) (hd:qnz w gt g12 g13 g14) {i:Nat} (hi:i<n) {u:PE} {r:List Tm} (hu:CRx MW wr 4 u r):DSt M w n gt g12 g13 g14 MW (set4 wr gt (i*4) (.int .i64 u.lv) (.bool u.b) (.slice u.a u.n u.p) (.slice u.ka u.kn u.kp)) a b s (qnE L i r) za zb zs:=by
 have hk:Kp MW wr (set4 wr gt (i*4) (.int .i64 u.lv) (.bool u.b) (.slice u.a u.n u.p) (.slice u.ka u.kn u.kp)):=Kp.set4 h.mt _ _ _ _ _;have hh:=fun q=>qag wr gt (i*4) (.int .i64 u.lv) (.bool u.b) (.slice u.a u.n u.p) (.slice u.ka u.kn u.kp) q;exact ⟨h.A.other hk (hh _ fun e=>hd.1.2.1 e.symm),h.B.other hk (hh _ fun e=>hd.1.2.2.1 e.symm),h.S.other hk (hh _ fun e=>hd.1.1 e.symm),h.L.set h.mt i hi hu,h.m.size hk.1,h.e.set4 hd.2.1 _ _ _ _ _,h.sub,h.sup,h.mt,h.m2,h.m3,h.m4⟩
theorem DSt.beside (h:DSt M w n gt g12 g13 g14 MW wr a b s L za zb zs) {g:Nat} (hg:MW g) (h1:g≠gt/\g≠g12/\g≠g13/\g≠g14/\w.heap.size<=g) (u:PE):DSt M w n gt g12 g13 g14 MW (set4 wr g 0 (.int .i64 u.lv) (.bool u.b) (.slice u.a u.n u.p) (.slice u.ka u.kn u.kp)) a b s L za zb zs:=by
 have hk:Kp MW wr (set4 wr g 0 (.int .i64 u.lv) (.bool u.b) (.slice u.a u.n u.p) (.slice u.ka u.kn u.kp)):=Kp.set4 hg _ _ _ _ _;have hh:=fun q=>qag wr g 0 (.int .i64 u.lv) (.bool u.b) (.slice u.a u.n u.p) (.slice u.ka u.kn u.kp) q;exact ⟨h.A.other hk (hh _ fun e=>h1.2.2.1 e.symm),h.B.other hk (hh _ fun e=>h1.2.2.2.1 e.symm),h.S.other hk (hh _ fun e=>h1.2.1 e.symm),h.L.kp (hh _ fun e=>h1.1 e.symm) hk,h.m.size hk.1,h.e.set4 h1.2.2.2.2 _ _ _ _ _,h.sub,h.sup,h.mt,h.m2,h.m3,h.m4⟩
theorem DSt.putA (h:DSt M w n gt g12 g13 g14 MW wr a b s L za zb zs) (hd:qnz w gt g12 g13 g14) {u:PE} {r:List Tm} (hu:CRx MW wr 4 u r):DSt M w n gt g12 g13 g14 MW (set4 wr g13 0 (.int .i64 u.lv) (.bool u.b) (.slice u.a u.n u.p) (.slice u.ka u.kn u.kp)) r b s L u zb zs:=by
 have hk:Kp MW wr (set4 wr g13 0 (.int .i64 u.lv) (.bool u.b) (.slice u.a u.n u.p) (.slice u.ka u.kn u.kp)):=Kp.set4 h.m3 _ _ _ _ _;have hh:=fun q=>qag wr g13 0 (.int .i64 u.lv) (.bool u.b) (.slice u.a u.n u.p) (.slice u.ka u.kn u.kp) q;exact ⟨h.A.put h.m3 hu,h.B.other hk (hh _ fun e=>hd.1.2.2.2.2.2 e.symm),h.S.other hk (hh _ hd.1.2.2.2.1),h.L.kp (hh _ hd.1.2.1) hk,h.m.size hk.1,h.e.set4 hd.2.2.2.1 _ _ _ _ _,h.sub,h.sup,h.mt,h.m2,h.m3,h.m4⟩
theorem DSt.putB (h:DSt M w n gt g12 g13 g14 MW wr a b s L za zb zs) (hd:qnz w gt g12 g13 g14) {u:PE} {r:List Tm} (hu:CRx MW wr 4 u r):DSt M w n gt g12 g13 g14 MW (set4 wr g14 0 (.int .i64 u.lv) (.bool u.b) (.slice u.a u.n u.p) (.slice u.ka u.kn u.kp)) a r s L za u zs:=by
 have hk:Kp MW wr (set4 wr g14 0 (.int .i64 u.lv) (.bool u.b) (.slice u.a u.n u.p) (.slice u.ka u.kn u.kp)):=Kp.set4 h.m4 _ _ _ _ _;have hh:=fun q=>qag wr g14 0 (.int .i64 u.lv) (.bool u.b) (.slice u.a u.n u.p) (.slice u.ka u.kn u.kp) q;exact ⟨h.A.other hk (hh _ hd.1.2.2.2.2.2),h.B.put h.m4 hu,h.S.other hk (hh _ hd.1.2.2.2.2.1),h.L.kp (hh _ hd.1.2.2.1) hk,h.m.size hk.1,h.e.set4 hd.2.2.2.2 _ _ _ _ _,h.sub,h.sup,h.mt,h.m2,h.m3,h.m4⟩
theorem DSt.putS (h:DSt M w n gt g12 g13 g14 MW wr a b s L za zb zs) (hd:qnz w gt g12 g13 g14) {u:PE} {r:List Tm} (hu:CRx MW wr 4 u r):DSt M w n gt g12 g13 g14 MW (set4 wr g12 0 (.int .i64 u.lv) (.bool u.b) (.slice u.a u.n u.p) (.slice u.ka u.kn u.kp)) a b r L za zb u:=by
 have hk:Kp MW wr (set4 wr g12 0 (.int .i64 u.lv) (.bool u.b) (.slice u.a u.n u.p) (.slice u.ka u.kn u.kp)):=Kp.set4 h.m2 _ _ _ _ _;have hh:=fun q=>qag wr g12 0 (.int .i64 u.lv) (.bool u.b) (.slice u.a u.n u.p) (.slice u.ka u.kn u.kp) q;exact ⟨h.A.other hk (hh _ fun e=>hd.1.2.2.2.1 e.symm),h.B.other hk (hh _ fun e=>hd.1.2.2.2.2.1 e.symm),h.S.put h.m2 hu,h.L.kp (hh _ hd.1.1) hk,h.m.size hk.1,h.e.set4 hd.2.2.1 _ _ _ _ _,h.sub,h.sup,h.mt,h.m2,h.m3,h.m4⟩
end
def qi0 (M:Nat->Prop) (w:World) (n:Nat) (F:Nat->List Tm) (e:Ending) (w':World):Prop:=∃ gl:Nat,e = .returned (.slice (some ⟨gl,0,none⟩) n n)/\w.heap.size<=gl/\qax (fun b=>M b∨b=gl) w' 4 gl n F/\Ext w w'
theorem DSt.ret {M:Nat->Prop} {w:World} {n gt g12 g13 g14:Nat} {MW:Nat->Prop} {wr:World} {a b s:List Tm} {L F:Nat->List Tm} {za zb zs:PE} (h:DSt M w n gt g12 g13 g14 MW wr a b s L za zb zs) (hgt:w.heap.size<=gt) (hF : ∀ i,i<n->Sim (L i) (F i)):qi0 M w n F (.returned (.slice (some ⟨gt,0,none⟩) n n)) wr:=
 ⟨gt,rfl,hgt,(h.L.congr hF).more fun b hb=>.inl (hb.elim (h.sub b) fun e=>by rw [e];exact h.mt),h.e⟩


theorem qos {P:Nat->Prop} : ∀ k,P k -> ∃ j,P j /\ ∀ i,P i->j<=i:=by
 intro k
 induction k using Nat.strongRecOn with
 | _ k ih=>
  intro hk
  by_cases h : ∃ i,P i/\i<k
  ·obtain ⟨i,hi,hlt⟩:=h;exact ih i hlt hi
  ·exact ⟨k,hk,fun i hi=>Nat.le_of_not_lt fun hl=>h ⟨i,hi,hl⟩⟩
noncomputable def qjG (P:Nat->Prop):Nat:=Classical.epsilon fun k=>P k /\ ∀ j,P j->k<=j
theorem qfo {P:Nat->Prop} {k:Nat} (h:P k):P (qjG P) /\ ∀ j,P j->qjG P<=j:=
 Classical.epsilon_spec (p:=fun k=>P k /\ ∀ j,P j->k<=j) (qos k h)
structure qs1 (M':Nat->Prop) (wd W:World) (a b:Nat) (x y:PE) (l r:List Tm):Prop where
 e:Ext wd W
 A:qfH (M9 M' (some a) (some b)) W a x l
 B:qfH (M9 M' (some a) (some b)) W b y r
 m:Mb (M9 M' (some a) (some b)) W
 la:wd.heap.size<=a
 lb:wd.heap.size<=b
 ne:b≠a
theorem S9.put2b {M' : Nat -> Prop} {wd wk : World} {a b : Nat} {x y : PE} {l r : List Tm} (h : S9 M' wd wk (some a) (some b)) (hx0 : CRx M' wd 4 x l) (hy : CRx (M9 M' (some a) (some b)) wk 4 y r) :
  ∃ W1,W1=set4 wk a 0 (.int .i64 x.lv) (.bool x.b) (.slice x.a x.n x.p) (.slice x.ka x.kn x.kp)/\Z4 wk a/\Fz4 wk a/\Ext wd W1/\Z4 W1 b/\Fz4 W1 b /\
  ∃ W2,W2=set4 W1 b 0 (.int .i64 y.lv) (.bool y.b) (.slice y.a y.n y.p) (.slice y.ka y.kn y.kp)/\qs1 M' wd W2 a b x y l r:=by
 obtain ⟨hB,hw⟩:=h.a a rfl;obtain ⟨hB',hw'⟩:=h.b b rfl;have hne:b≠a:=fun e=>h.ne a rfl (by rw [e]);have hx:CRx (M9 M' (some a) (some b)) wk 4 x l:=(hx0.more h.sub).ext h.e;have k1:Kp (M9 M' (some a) (some b)) wk (set4 wk a 0 (.int .i64 x.lv) (.bool x.b) (.slice x.a x.n x.p) (.slice x.ka x.kn x.kp)):=Kp.set4 (.inr (.inl rfl)) _ _ _ _ _;have b1:=qdB hB x;have b2:=hB'.of_heap (qag wk a 0 (.int .i64 x.lv) (.bool x.b) (.slice x.a x.n x.p) (.slice x.ka x.kn x.kp) b hne);have e1:=h.e.set4 hw 0 (.int .i64 x.lv) (.bool x.b) (.slice x.a x.n x.p) (.slice x.ka x.kn x.kp);have hm1:=h.mb.size k1.1;have hx1:=hx.kp k1;have hy1:=hy.kp k1;refine ⟨_,rfl,hB.z4,hB.fz4,e1,b2.z4,b2.fz4,_,rfl,?_⟩;generalize set4 wk a 0 (.int .i64 x.lv) (.bool x.b) (.slice x.a x.n x.p) (.slice x.ka x.kn x.kp)=W1 at *;have k2:Kp (M9 M' (some a) (some b)) W1 (set4 W1 b 0 (.int .i64 y.lv) (.bool y.b) (.slice y.a y.n y.p) (.slice y.ka y.kn y.kp)):=Kp.set4 (.inr (.inr rfl)) _ _ _ _ _;exact ⟨e1.set4 hw' _ _ _ _ _,⟨b1.of_heap (qag _ _ _ _ _ _ _ _ (fun e=>hne e.symm)),hx1.kp k2⟩,⟨qdB b2 y,hy1.kp k2⟩,hm1.size k2.1,hw,hw',hne⟩
theorem S9.newA {M':Nat->Prop} {wd wk:World} {B:Option Nat} (h:S9 M' wd wk none B) : ∃ v g,wk.alloc (.cells zA 33)=v/\wk.heap.size=g/\S9 M' wd v (some g) B /\ ∀ (x:PE) (l:List Tm),CRx (M9 M' none B) wk 4 x l->CRx (M9 M' (some g) B) v 4 x l:=⟨_,_,rfl,rfl,h.allA,fun _ _ k=>h.keepA k⟩
theorem S9.newB {M':Nat->Prop} {wd wk:World} {A:Option Nat} (h:S9 M' wd wk A none) : ∃ v g,wk.alloc (.cells zA 33)=v/\wk.heap.size=g/\S9 M' wd v A (some g) /\ ∀ (x:PE) (l:List Tm),CRx (M9 M' A none) wk 4 x l->CRx (M9 M' A (some g)) v 4 x l:=⟨_,_,rfl,rfl,h.allB,fun _ _ k=>h.keepB k⟩
theorem S9.swap {M':Nat->Prop} {wd wk:World} {A B:Option Nat} (h:S9 M' wd wk A B):S9 M' wd wk B A:=⟨h.e,h.m,h.b,h.a,fun g hb ha=>h.ne g ha hb⟩
theorem CRx.swap9 {M':Nat->Prop} {w:World} {A B:Option Nat} {x:PE} {l:List Tm} (h:CRx (M9 M' A B) w 4 x l):CRx (M9 M' B A) w 4 x l:=h.more fun g hg=>.inl (hg.elim .inl fun k=>.inr k.symm)
def qs6 (M':Nat->Prop) (y:PE) (l r:List Tm) (wd:World) (s13 s14:Value) (wx:World):Prop:=∃ (a b:Nat) (z:PE),s13 = .pointer (some ⟨a,0,none⟩)/\s14 = .pointer (some ⟨b,0,none⟩)/\qs1 M' wd wx a b y z l r
def qs9 (M:Nat->Prop) (w:World) (J n gt g12 g13 g14:Nat) (F:Nat->List Tm) (wr:World) (k:Nat):Prop:=∃ (MW:Nat->Prop) (a b s:List Tm) (L:Nat->List Tm) (za zb zs:PE),DSt M w n gt g12 g13 g14 MW wr a b s L za zb zs/\qs8 J n F k a b s L
def SG3 (a b c:Nat) (x y z:PE) (w:World):Prop:=P4 w a x/\P4 w b y/\P4 w c z
theorem SG3.ext {a b c:Nat} {x y z:PE} {w w':World} (h:SG3 a b c x y z w) (he:Ext w w'):SG3 a b c x y z w':=⟨h.1.ext he,h.2.1.ext he,h.2.2.ext he⟩
def qrC (M:Nat->Prop) (w:World) (n gt g12 g13 g14 g17:Nat) (a b s c:List Tm) (L:Nat->List Tm) (za zb zs:PE) (wx:World):Prop:=∃ (MW:Nat->Prop) (zc:PE),DSt M w n gt g12 g13 g14 MW wx a b s L za zb zs/\qfH MW wx g17 zc c/\MW g17
theorem qkq (M : Nat -> Prop) (x y : PE) (J m n fuel : Nat) (a b l s r : List Tm) (F : Nat -> List Tm) (w : World) (hM : Mb M w) (hn : 1 <= n) (hnm : n <= m) (hm : m <= 100)
  (hx:CRx M w 4 x a) (hy:CRx M w 4 y b) (ld:qrx J b l) (pw:qrE l (m - n) s) (rm:qrt J a b r) (run:qs8 J n F fuel b r s (fun _=>[])) :
  Calls Tryz.prog 164 #[.agg (peA x),.agg (peA y),.int .i64 (J:Int),.int .i64 (m:Int),.int .i64 (n:Int)] w (qi0 M w n F):=by
 obtain ⟨i0,hi,hz0,hz1,hz2⟩:=info_parts Tryz.info33;have hE:=((Ext.refl w).alloc (.cells (peA x) 33)).alloc (.cells (peA y) 33);have hBx:=qeI w x y
 have hsz0:((w.alloc (.cells (peA x) 33)).alloc (.cells (peA y) 33)).heap.size=w.heap.size+2:=by simp
 generalize hW:(w.alloc (.cells (peA x) 33)).alloc (.cells (peA y) 33)=W at *;have HW:=Lib.hid hW;have HE:=Lib.hid hE;have HBX:=Lib.hid hBx;have HSZ:=Lib.hid hsz0;have HM:=Lib.hid hM;have HX:=Lib.hid hx;have HY:=Lib.hid hy;have HLD:=Lib.hid ld;have HPW:=Lib.hid pw;have HRM:=Lib.hid rm;have HRUN:=Lib.hid run;have HNM:Hid (1<=n/\n<=m/\m<=100):=⟨hn,hnm,hm⟩
 have hnI:(n:Int)<=100:=by omega
 have hn0:(0:Int)<=(n:Int):=Int.natCast_nonneg _;clear hE hBx hW hsz0 hM hx hy ld pw rm run hn hnm hm
 go_enter Tryz.func164,Tryz.ntmps164
 go_upto_region 1 with (fail)
 rw [HW.out]
 go_wp2_with (first | (at_make;refine qbS _ rfl _ _ _ rfl 33 i0 (.agg #[.int .i64 0,.bool false,.slice none 0 0,.slice none 0 0]) 4 Tryz.underlying31 hi hz0 hz1 .i64 .i64 _ _ n rfl rfl ?c4 ?c5 ?c2 ?c3 ?_))
 case c2=>rw [hz2];omega
 case c3=>unfold maxLen;omega
 case c4=>first | rfl | simp
 case c5=>first | rfl | simp
 have hBk:=qbJ W n 33;have he1:=(Ext.refl W).alloc (.cells (madeCells (Value.agg #[.int .i64 0,.bool false,.slice none 0 0,.slice none 0 0]).cells (n*4)) 33);intro w1 hw1;replace hw1:W.alloc (.cells (madeCells (Value.agg #[.int .i64 0,.bool false,.slice none 0 0,.slice none 0 0]).cells (n*4)) 33)=w1:=hw1.out.symm;rw [hw1] at hBk he1;obtain ⟨gt,hgt⟩ : ∃ gt,gt=W.heap.size:=⟨_,rfl⟩;obtain ⟨g0,hg0⟩ : ∃ g0,g0=w.heap.size:=⟨_,rfl⟩;rw [<- hgt] at hBk ⊢;rw [<- hg0] at HBX ⊢;have HGT:Hid (gt=w.heap.size+2):=hgt.trans HSZ.out;have HM1:Hid (Mb (fun b=>M b∨b=gt) w1):=qb9 (HM.out.ext (HE.out.trans he1)) hBk.lt;have HT1:Hid (qax (fun b=>M b∨b=gt) w1 4 gt n (fun _=>[])):=qax.fresh hBk;have HE1:Hid (Ext w w1):=HE.out.trans he1
 have hmo : ∀ b,(M b∨b=gt)->M b∨w.heap.size<=b:=fun b hb=>hb.imp id fun h=>by have:=HGT.out;omega
 have HX1:Hid (CRx (fun b=>M b∨b=gt) w1 4 x a):=(HX.out.more hmo).ext HE1.out;have HY1:Hid (CRx (fun b=>M b∨b=gt) w1 4 y b):=(HY.out.more hmo).ext HE1.out;obtain ⟨⟨x0,x1,x2,x3⟩,y0,y1,y2,y3⟩:P4 w1 g0 x/\P4 w1 (g0+1) y:=⟨HBX.out.1.ext he1,HBX.out.2.ext he1⟩;have HXY:Hid (P4 w1 g0 x/\P4 w1 (g0+1) y):=⟨HBX.out.1.ext he1,HBX.out.2.ext he1⟩;clear hBk he1 hw1 hgt hg0 HBX HSZ HM HE HW hi hz0 hz1 hz2 HX HY hmo
 have hmw:IntKind.i64.wrap ((m:Int) - (n:Int))=((m - n:Nat):Int):=by
  have h:=HNM.out;rw [IntWalk.i64_in _ (by omega)];omega
 go_wp2_with (fail);refine (HLD.out _ w1 y HM1.out HY1.out).mono ?_;rintro e w2 ⟨u,rfl,hu,e2⟩;have HE2:=Lib.hid e2;have HU:=Lib.hid hu;obtain ⟨⟨x0,x1,x2,x3⟩,y0,y1,y2,y3⟩:P4 w2 g0 x/\P4 w2 (g0+1) y:=⟨HXY.out.1.ext e2,HXY.out.2.ext e2⟩;clear hu e2;go_wp2_with (fail)
 try rw [hmw]
 refine (HPW.out _ w2 u (HM1.out.ext HE2.out) HU.out).mono ?_;rintro e w3 ⟨v,rfl,hv,e3⟩;have hEA:=(Ext.refl w3).alloc (.cells (peA v) 33);have HE3:=Lib.hid ((HE2.out.trans e3).trans hEA);have hB12:Blk (w3.alloc (.cells (peA v) 33)) w3.heap.size 33 4 (arr (peA v)):=Blk.of_arr w3 (peA v) 33 4 rfl
 have hmo : ∀ q,((M q∨q=gt)∨q=w3.heap.size)->(M q∨q=gt)∨w3.heap.size<=q:=fun q hq=>hq.imp id fun h=>by omega
 have hV:CRx (fun q=>(M q∨q=gt)∨q=w3.heap.size) (w3.alloc (.cells (peA v) 33)) 4 v s:=(hv.more hmo).ext hEA;have hm4:Mb (fun q=>(M q∨q=gt)∨q=w3.heap.size) (w3.alloc (.cells (peA v) 33)):=qb9 (HM1.out.ext ((HE2.out.trans e3).trans hEA)) hB12.lt;have hs3:w1.heap.size<=w3.heap.size:=(HE2.out.trans e3).size;generalize hW4:w3.alloc (.cells (peA v) 33)=w4 at *;have HW4:=Lib.hid hW4;obtain ⟨g12,hg12⟩ : ∃ g12,g12=w3.heap.size:=⟨_,rfl⟩;rw [<- hg12] at hB12 hmo hV hm4 hs3;have HG12:=Lib.hid hg12;have HS12:Hid (qfH (fun q=>(M q∨q=gt)∨q=g12) w4 g12 v s):=⟨hB12,hV⟩;have HM4:=Lib.hid hm4;have HG3:Hid (w.heap.size<=g12/\gt≠g12):=⟨by have:=HE1.out.size;omega,by have:=HT1.out.lt;omega⟩
 have hmo1 : ∀ q,((M q∨q=gt)∨q=g12)->(M q∨q=gt)∨w1.heap.size<=q:=fun q hq=>hq.imp id fun h=>by omega
 have HT4:Hid (qax (fun q=>(M q∨q=gt)∨q=g12) w4 4 gt n (fun _=>[])):=(HT1.out.more hmo1).ext HE3.out;have HX4:Hid (CRx (fun q=>(M q∨q=gt)∨q=g12) w4 4 x a):=(HX1.out.more hmo1).ext HE3.out;have HY4:Hid (CRx (fun q=>(M q∨q=gt)∨q=g12) w4 4 y b):=(HY1.out.more hmo1).ext HE3.out;have HE4:Hid (Ext w w4):=HE1.out.trans HE3.out;obtain ⟨⟨x0,x1,x2,x3⟩,y0,y1,y2,y3⟩:P4 w4 g0 x/\P4 w4 (g0+1) y:=⟨HXY.out.1.ext HE3.out,HXY.out.2.ext HE3.out⟩;have HSB4:Hid (SBr g0 x y w4):=SBr.ext HXY.out HE3.out;obtain ⟨M',hM'⟩ : ∃ M':Nat->Prop,M'=fun q=>(M q∨q=gt)∨q=g12:=⟨_,rfl⟩;rw [<- hM'] at HS12 HM4 HT4 HX4 HY4
 have HMP:Hid (M' gt/\M' g12/\(∀ q,M q->M' q) /\ ∀ q,M' q->M q∨w.heap.size<=q):=by
  rw [hM'];exact ⟨.inl (.inr rfl),.inr rfl,fun q hq=>.inl (.inl hq),fun q hq=>hq.elim (fun h=>h.imp id fun e=>by have:=HGT.out;omega) fun e=>.inr (by have:=HG3.out.1;omega)⟩
 clear hv e3 HU HE2 hmw hW4 hEA hg12 hB12 hV hm4 hmo hmo1 hM' HXY HM1 HT1 HX1 HY1 HE1 HE3 hs3 HLD HPW;have HD:Hid (Ext w w4.drew):=HE4.out.trans (Ext.refl _).drew;have HED:Hid (Ext w4 w4.drew):=(Ext.refl _).drew;clear x0 x1 x2 x3 y0 y1 y2 y3
 go_upto_region 3 with (fail)
 rw [HW4.out,<- HG12.out];clear HW4 HG12;generalize hwD:w4.drew=wD at *
 go_cut [13,14] (qs6 M' y b r wD)
 case first=>
  have HMW:Hid (Mb M' wD):=HM4.out.ext HED.out;have HS0:Hid (SBr g0 x y wD):=HSB4.out.ext HED.out;have HXD:Hid (CRx M' wD 4 x a):=HX4.out.ext HED.out;have HYD:Hid (CRx M' wD 4 y b):=HY4.out.ext HED.out;have C1:Hid (∀ A B W',S9 M' wD W' A B->Calls Tryz.prog 195 #[.agg (peA x),.agg (peA y),.int .i64 (J:Int)] W' (qa8 (M9 M' A B) W' 4 r)):=fun A B W' h=>HRM.out (M9 M' A B) W' x y h.mb ((HXD.out.more h.sub).ext h.e) ((HYD.out.more h.sub).ext h.e);have S0:=S9.start HMW.out;refine qad (SBr g0 x y) 9 (by kernel_rfl) (by rw [hwD];exact HS0.out) (fun hHeld=>?_);rw [hwD] at hHeld ⊢;clear HS0 HED HE4 HD hwD HMW HX4 HY4 HSB4 HT4 HS12 HM4 HRUN HMP HXD HGT HG3 HRM;generalize wD=wd at *;(refine tkB [0,1,2,3] ?_;(iterate 4 (refine tk1 (oi:=?_) (v:=?_) (by kernel_rfl) (by first | exact hSn | exact hHeld) ?_ ?_ ?_ ?_ ?_;rotate_left 2;(simp only [xgA,xgB,xgC];rfl);rfl;(intro wS hSw;obtain ⟨⟨A0,A1,A2,A3⟩,B0,B1,B2,B3⟩:=hSw;go_simp;try with_reducible rfl);(exact fun _ _ _ h=>h);(try simp only [Act.put,xgD,xgE,xgF])));refine tkE ?_);have SX:=S0;clear S0;(refine qkl 4 5 6 (oi:=?_) (oj:=?_) (ok:=?_) (by kernel_rfl) ?_ ?_ ?_ ?_ ?_ ?_;rotate_left 3;(simp only [xgA,xgB,xgC];rfl);(simp only [xgA,xgB,xgC];rfl);(simp only [xgA,xgB,xgC];rfl);all_goals intro K hK)
  all_goals (first | (go_simp;refine (C1.out _ _ _ SX).mono ?_;rintro e v ⟨z,rfl,hz,D⟩;go_wp2_with (fail);replace SX:=SX.call D;clear D;(try clear hSn);have hSn:=hHeld.ext SX.e;refine hK.out _ _ (fun _=>hSn) ?_;clear hK K;(try simp only [Act.put,xgD,xgE,xgF])) | (go_simp;(first | obtain ⟨v,g,hv,hg,SX,hkp⟩:=SX.newA | obtain ⟨v,g,hv,hg,SX,hkp⟩:=SX.newB);(try replace hz:=hkp _ _ hz);rw [hv,hg];clear hv hg hkp;(try clear hSn);have hSn:=hHeld.ext SX.e;refine hK.out _ _ (fun _=>hSn) ?_;clear hK K;(try simp only [Act.put,xgD,xgE,xgF])))
  focus (refine qau 5 6 (oi:=?_) (oj:=?_) (by kernel_rfl) ?_ ?_ ?_ ?_;rotate_left 2;(simp only [xgA,xgB,xgC];rfl);(simp only [xgA,xgB,xgC];rfl);all_goals intro K hK)
  rotate_left 2
  focus (refine qau 4 6 (oi:=?_) (oj:=?_) (by kernel_rfl) ?_ ?_ ?_ ?_;rotate_left 2;(simp only [xgA,xgB,xgC];rfl);(simp only [xgA,xgB,xgC];rfl);all_goals intro K hK)
  rotate_left 2
  focus (refine qau 4 5 (oi:=?_) (oj:=?_) (by kernel_rfl) ?_ ?_ ?_ ?_;rotate_left 2;(simp only [xgA,xgB,xgC];rfl);(simp only [xgA,xgB,xgC];rfl);all_goals intro K hK)
  all_goals (first | (go_simp;refine (C1.out _ _ _ SX).mono ?_;rintro e v ⟨z,rfl,hz,D⟩;go_wp2_with (fail);replace SX:=SX.call D;clear D;(try clear hSn);have hSn:=hHeld.ext SX.e;refine hK.out _ _ (fun _=>hSn) ?_;clear hK K;(try simp only [Act.put,xgD,xgE,xgF])) | (go_simp;(first | obtain ⟨v,g,hv,hg,SX,hkp⟩:=SX.newA | obtain ⟨v,g,hv,hg,SX,hkp⟩:=SX.newB);(try replace hz:=hkp _ _ hz);rw [hv,hg];clear hv hg hkp;(try clear hSn);have hSn:=hHeld.ext SX.e;refine hK.out _ _ (fun _=>hSn) ?_;clear hK K;(try simp only [Act.put,xgD,xgE,xgF])))
  focus (refine qaa 5 (o:=?_) (by kernel_rfl) ?_ ?_;rotate_left 1;(simp only [xgA,xgB,xgC];rfl);intro K hK)
  rotate_left
  focus (refine qaa 4 (o:=?_) (by kernel_rfl) ?_ ?_;rotate_left 1;(simp only [xgA,xgB,xgC];rfl);intro K hK)
  rotate_left
  focus (refine qaa 6 (o:=?_) (by kernel_rfl) ?_ ?_;rotate_left 1;(simp only [xgA,xgB,xgC];rfl);intro K hK)
  rotate_left
  focus (refine qaa 5 (o:=?_) (by kernel_rfl) ?_ ?_;rotate_left 1;(simp only [xgA,xgB,xgC];rfl);intro K hK)
  rotate_left
  focus (refine qaa 6 (o:=?_) (by kernel_rfl) ?_ ?_;rotate_left 1;(simp only [xgA,xgB,xgC];rfl);intro K hK)
  rotate_left
  focus (refine qaa 4 (o:=?_) (by kernel_rfl) ?_ ?_;rotate_left 1;(simp only [xgA,xgB,xgC];rfl);intro K hK)
  all_goals (first | (go_simp;refine (C1.out _ _ _ SX).mono ?_;rintro e v ⟨z,rfl,hz,D⟩;go_wp2_with (fail);replace SX:=SX.call D;clear D;(try clear hSn);have hSn:=hHeld.ext SX.e;refine hK.out _ _ (fun _=>hSn) ?_;clear hK K;(try simp only [Act.put,xgD,xgE,xgF])) | (go_simp;(first | obtain ⟨v,g,hv,hg,SX,hkp⟩:=SX.newA | obtain ⟨v,g,hv,hg,SX,hkp⟩:=SX.newB);(try replace hz:=hkp _ _ hz);rw [hv,hg];clear hv hg hkp;(try clear hSn);have hSn:=hHeld.ext SX.e;refine hK.out _ _ (fun _=>hSn) ?_;clear hK K;(try simp only [Act.put,xgD,xgE,xgF])))
  all_goals (first | (obtain ⟨W1,hW1,⟨q0,q1,q2,q3⟩,⟨f0,f1,f2,f3⟩,E1,⟨r0,r1,r2,r3⟩,⟨k0,k1,k2,k3⟩,W2,hW2,HP2⟩:=SX.put2b HYD.out hz;unfold set4 at hW1 hW2;have hSn1:=hHeld.ext E1;have hSn2:=hHeld.ext HP2.e;clear hSn;(refine qaa 7 (o:=?_) (by kernel_rfl) ?_ ?_;rotate_left 1;(simp only [xgA,xgB,xgC];rfl);intro K hK);go_simp;rw [<- hW1];clear hW1;refine hK.out _ _ (fun _=>hSn1) ?_;clear hK K q0 q1 q2 q3 f0 f1 f2 f3;(try simp only [Act.put,xgD,xgE,xgF]);(refine qaa 8 (o:=?_) (by kernel_rfl) ?_ ?_;rotate_left 1;(simp only [xgA,xgB,xgC];rfl);intro K hK);go_simp;rw [<- hW2];clear hW2;refine hK.out _ _ (fun _=>hSn2) ?_;clear hK K r0 r1 r2 r3 k0 k1 k2 k3;(try simp only [Act.put,xgD,xgE,xgF]);refine qac (by kernel_rfl) ?_ _;go_wp2_with (fail);go_meet;exact ⟨_,_,z,rfl,rfl,HP2⟩) | (obtain ⟨W1,hW1,⟨q0,q1,q2,q3⟩,⟨f0,f1,f2,f3⟩,E1,⟨r0,r1,r2,r3⟩,⟨k0,k1,k2,k3⟩,W2,hW2,HP2⟩:=SX.swap.put2b HYD.out hz.swap9;unfold set4 at hW1 hW2;have hSn1:=hHeld.ext E1;have hSn2:=hHeld.ext HP2.e;clear hSn;(refine qaa 7 (o:=?_) (by kernel_rfl) ?_ ?_;rotate_left 1;(simp only [xgA,xgB,xgC];rfl);intro K hK);go_simp;rw [<- hW1];clear hW1;refine hK.out _ _ (fun _=>hSn1) ?_;clear hK K q0 q1 q2 q3 f0 f1 f2 f3;(try simp only [Act.put,xgD,xgE,xgF]);(refine qaa 8 (o:=?_) (by kernel_rfl) ?_ ?_;rotate_left 1;(simp only [xgA,xgB,xgC];rfl);intro K hK);go_simp;rw [<- hW2];clear hW2;refine hK.out _ _ (fun _=>hSn2) ?_;clear hK K r0 r1 r2 r3 k0 k1 k2 k3;(try simp only [Act.put,xgD,xgE,xgF]);refine qac (by kernel_rfl) ?_ _;go_wp2_with (fail);go_meet;exact ⟨_,_,z,rfl,rfl,HP2⟩))
 case rest=>
  obtain ⟨g13,g14,zz,rfl,rfl,hput⟩:=hcut;have HEc:Hid (Ext w4 wc):=HED.out.trans hput.e
  have hgl : ∀ q,q<w4.heap.size->q≠g13/\q≠g14:=fun q hq=>by
   have h1:=HED.out.size;have h2:=hput.la;have h3:=hput.lb;constructor <;> omega
  have HDI:Hid (qnz w gt g12 g13 g14):=⟨⟨HG3.out.2,(hgl gt HT4.out.lt).1,(hgl gt HT4.out.lt).2,(hgl g12 HS12.out.lt).1,(hgl g12 HS12.out.lt).2,fun e=>hput.ne e.symm⟩,by have:=HGT.out;omega,HG3.out.1,Nat.le_trans HD.out.size hput.la,Nat.le_trans HD.out.size hput.lb⟩
  have hmo : ∀ q,M9 M' (some g13) (some g14) q->M' q∨w4.heap.size<=q:=fun q hq=>hq.imp id fun h=>by
   have h1:=HED.out.size;have h2:=hput.la;have h3:=hput.lb;rcases h with h | h <;> cases h <;> omega
  have HREL:Hid (∃ k,qs9 M w J n gt g12 g13 g14 F wc k):=⟨fuel,M9 M' (some g13) (some g14),b,r,s,fun _=>[],y,zz,v,⟨hput.A,hput.B,(HS12.out.more hmo).ext HEc.out,(HT4.out.more hmo).ext HEc.out,hput.m,HE4.out.trans HEc.out,fun q hq=>.inl (HMP.out.2.2.1 q hq),fun q hq=>(hmo q hq).elim (HMP.out.2.2.2 q) fun h=>.inr (Nat.le_trans HE4.out.size h),.inl HMP.out.1,.inl HMP.out.2.1,.inr (.inl rfl),.inr (.inr rfl)⟩,HRUN.out⟩;clear hput hgl hmo HEc HD HED HE4 HX4 HY4 HSB4 HT4 HS12 HM4 HRUN HMP HGT HG3 HRM hwD;go_wp2
  go_loopw [15] (fun _ wr=>∃ k,qs9 M w J n gt g12 g13 g14 F wr k) (fun _ wr=>qjG (qs9 M w J n gt g12 g13 g14 F wr))
  case atStart=>exact HREL.out
  case round=>
   clear HREL;obtain ⟨k0,hk0⟩:=hrel;have hk1:=(qfo hk0).1;obtain ⟨kk,hke⟩ : ∃ kk,kk=qjG (qs9 M w J n gt g12 g13 g14 F wr):=⟨_,rfl⟩;rw [<- hke] at hk1;have HKE:=Lib.hid hke;clear hk0 hke
   cases kk with
   | zero=>
    obtain ⟨_,_,_,_,_,_,_,_,_,h⟩:=hk1;exact h.elim
   | succ k=>
    obtain ⟨MW,a,b,s,L,za,zb,zs,hst,d,hda,hd1,hd2,hcs⟩:=hk1
    obtain ⟨z, hdb, hz⟩ : ∃ z : Int, qs7 J b z /\ ((z = -1 /\ ∀ i, i < n -> Sim (L i) (F i)) ∨ ∃ (dn e : Nat) (c : List Tm) (L' : Nat -> List Tm), z = (e : Int) /\ d = (dn : Int) /\ e < dn /\ dn <= n /\ CPh J b s (dn - e) e (qnE L (dn - 1) b) L' c /\
      ((e=0 /\ ∀ i,i<n->Sim (L' i) (F i))∨(0<e /\ ∃ s1 la dv r b' s',qrE s (dn - e) s1/\qrx J a la/\qtc s1 la dv/\qrt J a b r/\qtb r dv b'/\qrx J c s'/\qs8 J n F k c b' s' L'))):=by
     rcases hcs with ⟨h1,h2⟩ | ⟨dn,e,c,L',h1,h2,h3⟩
     ·exact ⟨-1,h1,.inl ⟨rfl,h2⟩⟩
     ·exact ⟨(e:Int),h2,.inr ⟨dn,e,c,L',rfl,h1,h3⟩⟩
    have HST:=Lib.hid hst;have HZ:=Lib.hid hz;have HDD:Hid (-1<=d/\d<=1000):=⟨hd1,hd2⟩;have HPd:Hid (SG9 g13 g14 za zb wr.drew):=SG9.ext ⟨hst.A.b.p4,hst.B.b.p4⟩ (Ext.refl _).drew;have C2:Hid (∀ wk,Ext wr.drew wk->Calls Tryz.prog 43 #[.agg (peA za),.int .i64 (J:Int)] wk fun e w'=>e = .returned (.int .i64 d)/\Ext wk w'):=fun wk he=>hda MW wk za (hst.m.ext ((Ext.refl _).drew.trans he)) (hst.A.x.ext ((Ext.refl _).drew.trans he));have C5:Hid (∀ wk,Ext wr.drew wk->Calls Tryz.prog 43 #[.agg (peA zb),.int .i64 (J:Int)] wk fun e w'=>e = .returned (.int .i64 z)/\Ext wk w'):=fun wk he=>hdb MW wk zb (hst.m.ext ((Ext.refl _).drew.trans he)) (hst.B.x.ext ((Ext.refl _).drew.trans he));have HDR:Hid (Ext wr wr.drew):=(Ext.refl _).drew;clear hst hz hd1 hd2 hcs hda hdb
    go_upto_region 4 with (fail)
    refine qad (SG9 g13 g14 za zb) 8 (by kernel_rfl) HPd.out (fun hHeld=>?_);obtain ⟨wo,hwo⟩ : ∃ wo,wo=wr:=⟨_,rfl⟩;generalize wr.drew=wd at *;(refine tkB [0,1,3,4] ?_;(iterate 4 (refine tk1 (oi:=?_) (v:=?_) (by kernel_rfl) (by first | exact hSn | exact hHeld) ?_ ?_ ?_ ?_ ?_;rotate_left 2;(simp only [xgA,xgB,xgC];rfl);rfl;(intro wS hSw;obtain ⟨⟨A0,A1,A2,A3⟩,B0,B1,B2,B3⟩:=hSw;go_simp;try with_reducible rfl);(exact fun _ _ _ h=>h);(try simp only [Act.put,xgD,xgE,xgF])));refine tkE ?_);((refine qaa 2 (o:=?_) (by kernel_rfl) ?_ ?_;rotate_left 1;(simp only [xgA,xgB,xgC];rfl);intro K hK);go_simp;(refine (C2.out wd (Ext.refl _)).mono ?_);rintro e_ w5 ⟨rfl,e2⟩;go_wp2_with (fail);(try clear hSn);(have hSn:=hHeld.ext e2);(refine hK.out _ _ (fun _=>hSn) ?_);clear hK K;(try simp only [Act.put,xgD,xgE,xgF]));((refine qaa 5 (o:=?_) (by kernel_rfl) ?_ ?_;rotate_left 1;(simp only [xgA,xgB,xgC];rfl);intro K hK);go_simp;(refine (C5.out w5 e2).mono ?_);rintro e_ w6 ⟨rfl,e5⟩;go_wp2_with (fail);(try clear hSn);(have hSn:=hHeld.ext (e2.trans e5));(refine hK.out _ _ (fun _=>hSn) ?_);clear hK K;(try simp only [Act.put,xgD,xgE,xgF]));(refine tkB [6,7] ?_;(iterate 2 (refine tk1 (oi:=?_) (v:=?_) (by kernel_rfl) (by first | exact hSn | exact hHeld) ?_ ?_ ?_ ?_ ?_;rotate_left 2;(simp only [xgA,xgB,xgC];rfl);rfl;(intro wS hSw;obtain ⟨⟨A0,A1,A2,A3⟩,B0,B1,B2,B3⟩:=hSw;go_simp;try with_reducible rfl);(exact fun _ _ _ h=>h);(try simp only [Act.put,xgD,xgE,xgF])));refine tkE ?_);refine qac (by kernel_rfl) ?_ _;have HST6:=Lib.hid (HST.out.ext (HDR.out.trans (e2.trans e5)))
    clear hHeld hSn e2 e5 HPd C2 C5 HDR HST hwo;rcases HZ.out with ⟨rfl,hF⟩ | ⟨dn,e,c,L',rfl,rfl,hed,hdn,hcp,hend⟩
    ·have HF:Hid (qi0 M w n F (.returned (.slice (some ⟨gt,0,none⟩) n n)) w6):=HST6.out.ret HDI.out.2.1 hF;clear hF HST6 HZ HDD HKE HDI HNM;go_wp2;go_ret;exact HF.out
    ·obtain ⟨D,hD⟩ : ∃ D,dn=D+1:=⟨dn - 1,by omega⟩;have HDN:Hid (D<n/\dn=D+1):=⟨by omega,hD⟩
     have hDn:(D:Int)<(n:Int):=by omega
     have hD0:(0:Int)<=(D:Int):=Int.natCast_nonneg _;have he0:(0:Int)<=(e:Int):=Int.natCast_nonneg _
     have hwr:IntKind.i64.wrap ((dn:Int) - 1)=(D:Int):=by rw [IntWalk.i64_in _ (by omega)];omega
     obtain ⟨G,hG⟩ : ∃ G,G=dn - e:=⟨_,rfl⟩
     have hwg:IntKind.i64.wrap ((dn:Int) - (e:Int))=(G:Int):=by rw [IntWalk.i64_in _ (by omega)];omega
     have HGE:Hid (1<=G/\G<=100/\e<n):=⟨by omega,by omega,by omega⟩;rw [<- hG] at hcp hend
     have hDe:dn - 1=D:=by omega
     rw [hDe] at hcp;have HCP:=Lib.hid hcp;have HEND:=Lib.hid hend;clear hcp hend hG hDe hed hdn hD HZ HDD;obtain ⟨⟨_,q0⟩,⟨_,q1⟩,⟨_,q2⟩,⟨_,q3⟩,hfz,_⟩:=HST6.out.L.at D HDN.out.1;have f0:=hfz (D*4);have f1:=hfz (D*4+1);have f2:=hfz (D*4+2);have f3:=hfz (D*4+3);have hst7:=HST6.out.list HDI.out HDN.out.1 HST6.out.B.x;obtain ⟨W7,hW7⟩ : ∃ W7,W7=set4 w6 gt (D*4) (.int .i64 zb.lv) (.bool zb.b) (.slice zb.a zb.n zb.p) (.slice zb.ka zb.kn zb.kp):=⟨_,rfl⟩;rw [<- hW7] at hst7;unfold set4 at hW7;have HW7:=Lib.hid hW7;have HST7:=Lib.hid hst7;clear hst7 hW7 hfz;obtain ⟨B0,B1,B2,B3⟩:=HST6.out.B.b.p4;clear HST6
     go_upto_region 8 with (fail)
     try rw [<- HW7.out]
     clear HW7 q0 q1 q2 q3 f0 f1 f2 f3 B0 B1 B2 B3;obtain ⟨b0,b1,b2,b3⟩:=HST7.out.B.b.p4;have hEA:=(Ext.refl W7).alloc (.cells (peA zb) 33);have hB17:Blk (W7.alloc (.cells (peA zb) 33)) W7.heap.size 33 4 (arr (peA zb)):=Blk.of_arr W7 (peA zb) 33 4 rfl;obtain ⟨W8,hW8⟩ : ∃ W8,W8=W7.alloc (.cells #[.int .i64 zb.lv,.bool zb.b,.slice zb.a zb.n zb.p,.slice zb.ka zb.kn zb.kp] 33):=⟨_,rfl⟩;have hWP:W7.alloc (.cells (peA zb) 33)=W8:=hW8.symm;rw [hWP] at hEA hB17;have hst8:=HST7.out.more hEA (g:=W7.heap.size) (Nat.le_refl _) hB17.lt;have hx8:CRx (fun q=>MW q∨q=W7.heap.size) W8 4 zb b:=(HST7.out.B.x.more fun q hq=>hq.imp id fun h=>by omega).ext hEA;have HGG:Hid (W7.heap.size≠gt/\W7.heap.size≠g12/\W7.heap.size≠g13/\W7.heap.size≠g14/\w.heap.size<=W7.heap.size):=⟨by have:=HST7.out.L.lt;omega,by have:=HST7.out.S.lt;omega,by have:=HST7.out.A.lt;omega,by have:=HST7.out.B.lt;omega,HST7.out.e.size⟩;have HW8:=Lib.hid hW8;obtain ⟨g17,hg17⟩ : ∃ g17,g17=W7.heap.size:=⟨_,rfl⟩;rw [<- hg17] at hst8 hx8 hB17 HGG;have HG17:=Lib.hid hg17;have HST8:=Lib.hid hst8;have HB8:Hid (qfH (fun q=>MW q∨q=g17) W8 g17 zb b):=⟨hB17,hx8⟩;have HMG:Hid ((fun q=>MW q∨q=g17) g17):=.inr rfl;obtain ⟨MX,hMX⟩ : ∃ MX:Nat->Prop,MX=fun q=>MW q∨q=g17:=⟨_,rfl⟩;rw [<- hMX] at HST8 HB8 HMG;clear hW8 hg17 hst8 hx8 hB17 hEA hWP hMX HST7
     go_upto_if 53 with (fail)
     rw [<- HW8.out,<- HG17.out];clear HW8 HG17 b0 b1 b2 b3
     go_cut [17] (fun s17 wx=>s17 = .pointer (some ⟨g17,0,none⟩)/\qrC M w n gt g12 g13 g14 g17 a b s c L' za zb zs wx)
     case first=>
      rcases HCP.out with ⟨hg1,rfl,rfl⟩ | ⟨hg1,rfl,lb,p,c0,qq,hlb,hp,hc0,hqq,hqo⟩
      ·have hG1 : ¬ 1<(G:Int):=by omega
       have HF:Hid (qrC M w n gt g12 g13 g14 g17 a c s c (qnE L D c) za zb zs W8):=⟨MX,zb,HST8.out,HB8.out,HMG.out⟩;clear HCP HEND HST8 HB8 HMG HKE HGG HDI HNM hg1;go_wp2
       go_meet
       exact ⟨rfl,HF.out⟩
      ·have hG1:1<(G:Int):=by omega
       have hwg1:IntKind.i64.wrap ((G:Int) - 1)=((G - 1:Nat):Int):=by have:=HGE.out;rw [IntWalk.i64_in _ (by omega)];omega
       have HLB:=Lib.hid hlb;have HP:=Lib.hid hp;have HC0:=Lib.hid hc0;have HQQ:=Lib.hid hqq;have HQO:=Lib.hid hqo;clear hlb hp hc0 hqq hqo hg1 HCP
       go_upto_region 10 with (fail)
       have HDR:Hid (Ext W8 W8.drew):=(Ext.refl _).drew;have HPd:Hid (SG9 g14 g17 zb zb W8.drew):=SG9.ext ⟨HST8.out.B.b.p4,HB8.out.b.p4⟩ (Ext.refl _).drew;have HM8:=Lib.hid HST8.out.m;have HXB:=Lib.hid HST8.out.B.x;have C2:Hid (∀ wk,Ext W8.drew wk->Calls Tryz.prog 117 #[.agg (peA zb),.int .i64 (J:Int)] wk (qa8 MX wk 4 lb)):=fun wk he=>HLB.out MX wk zb (HM8.out.ext ((Ext.refl _).drew.trans he)) (HXB.out.ext ((Ext.refl _).drew.trans he));have C5:Hid (∀ wk u,Ext W8.drew wk->CRx MX wk 4 u lb->Calls Tryz.prog 53 #[.agg (peA u),.int .i64 ((G - 1:Nat):Int)] wk (qa8 MX wk 4 p)):=fun wk u he hu=>HP.out MX wk u (HM8.out.ext ((Ext.refl _).drew.trans he)) hu;have C7:Hid (∀ wk u,Ext W8.drew wk->CRx MX wk 4 u p->Calls Tryz.prog 55 #[.agg (peA u),.agg (peA zb)] wk (qa8 MX wk 4 c0)):=fun wk u he hu=>HC0.out MX wk u zb (HM8.out.ext ((Ext.refl _).drew.trans he)) hu (HXB.out.ext ((Ext.refl _).drew.trans he));refine qad (SG9 g14 g17 zb zb) 8 (by kernel_rfl) HPd.out (fun hHeld=>?_);generalize W8.drew=wd at *;(refine tkB [0,1,3,4,6] ?_;(iterate 5 (refine tk1 (oi:=?_) (v:=?_) (by kernel_rfl) (by first | exact hSn | exact hHeld) ?_ ?_ ?_ ?_ ?_;rotate_left 2;(simp only [xgA,xgB,xgC];rfl);rfl;(intro wS hSw;obtain ⟨⟨A0,A1,A2,A3⟩,B0,B1,B2,B3⟩:=hSw;go_simp;try with_reducible rfl);(exact fun _ _ _ h=>h);(try simp only [Act.put,xgD,xgE,xgF])));refine tkE ?_);((refine qaa 2 (o:=?_) (by kernel_rfl) ?_ ?_;rotate_left 1;(simp only [xgA,xgB,xgC];rfl);intro K hK);go_simp;(refine (C2.out wd (Ext.refl _)).mono ?_);rintro e_ w9 ⟨u,rfl,hu,e2⟩;go_wp2_with (fail);(try clear hSn);(have hSn:=hHeld.ext e2);(refine hK.out _ _ (fun _=>hSn) ?_);clear hK K;(try simp only [Act.put,xgD,xgE,xgF]))
       ((refine qaa 5 (o:=?_) (by kernel_rfl) ?_ ?_;rotate_left 1;(simp only [xgA,xgB,xgC];rfl);intro K hK);go_simp;(refine (C5.out w9 u e2 hu).mono ?_);rintro e_ w10 ⟨v2,rfl,hv2,e5⟩;go_wp2_with (fail);(try clear hSn);(have hSn:=hHeld.ext (e2.trans e5));(refine hK.out _ _ (fun _=>hSn) ?_);clear hK K;(try simp only [Act.put,xgD,xgE,xgF]));((refine qaa 7 (o:=?_) (by kernel_rfl) ?_ ?_;rotate_left 1;(simp only [xgA,xgB,xgC];rfl);intro K hK);go_simp;(refine (C7.out w10 v2 (e2.trans e5) hv2).mono ?_);rintro e_ w11 ⟨v3,rfl,hv3,e7⟩;go_wp2_with (fail);(try clear hSn);(have hSn:=hHeld.ext ((e2.trans e5).trans e7));(refine hK.out _ _ (fun _=>hSn) ?_);clear hK K;(try simp only [Act.put,xgD,xgE,xgF]));have hE11:=HDR.out.trans ((e2.trans e5).trans e7);have hst11:=HST8.out.ext hE11;have hb11:=HB8.out.ext hE11;have hst12:=hst11.beside HMG.out HGG.out v3;have hb12:=hb11.put HMG.out hv3;obtain ⟨q0,q1,q2,q3⟩:=hb11.b.p4;have hfz:=hb11.b.frozen;have f0:=hfz 0;have f1:=hfz 1;have f2:=hfz 2;have f3:=hfz 3;obtain ⟨W12,hW12⟩ : ∃ W12,W12=set4 w11 g17 0 (.int .i64 v3.lv) (.bool v3.b) (.slice v3.a v3.n v3.p) (.slice v3.ka v3.kn v3.kp):=⟨_,rfl⟩;rw [<- hW12] at hst12 hb12;unfold set4 at hW12;have HW12:=Lib.hid hW12;have HST12:=Lib.hid hst12;have HB12:=Lib.hid hb12;clear hE11 hst11 hb11 hst12 hb12 hW12 hfz hu hv2 hv3 e2 e5 e7 C2 C5 C7 HPd HXB HM8 HDR HST8 HB8;(refine qaa 8 (o:=?_) (by kernel_rfl) ?_ ?_;rotate_left 1;(simp only [xgA,xgB,xgC];rfl);intro K hK);go_simp;rw [<- HW12.out];refine hK.out _ _ (fun h=>absurd rfl h) ?_
       clear hK K HW12 q0 q1 q2 q3 f0 f1 f2 f3 hSn;refine qac (by kernel_rfl) ?_ _;clear hHeld;have HDR:Hid (Ext W12 W12.drew):=(Ext.refl _).drew;have HPd:Hid (SG9 g17 g12 v3 zs W12.drew):=SG9.ext ⟨HB12.out.b.p4,HST12.out.S.b.p4⟩ (Ext.refl _).drew;have HM8:=Lib.hid HST12.out.m;have HXS:=Lib.hid HST12.out.S.x;have HXC:=Lib.hid HB12.out.x;have C4:Hid (∀ wk,Ext W12.drew wk->Calls Tryz.prog 53 #[.agg (peA zs),.int .i64 ((G - 1:Nat):Int)] wk (qa8 MX wk 4 qq)):=fun wk he=>HQQ.out MX wk zs (HM8.out.ext ((Ext.refl _).drew.trans he)) (HXS.out.ext ((Ext.refl _).drew.trans he));have C5:Hid (∀ wk u,Ext W12.drew wk->CRx MX wk 4 u qq->Calls Tryz.prog 196 #[.agg (peA v3),.agg (peA u)] wk (qa8 MX wk 4 c)):=fun wk u he hu=>HQO.out MX wk v3 u (HM8.out.ext ((Ext.refl _).drew.trans he)) (HXC.out.ext ((Ext.refl _).drew.trans he)) hu
       go_upto_region 11 with (fail)
       refine qad (SG9 g17 g12 v3 zs) 6 (by kernel_rfl) HPd.out (fun hHeld=>?_);generalize W12.drew=wd at *;(refine tkB [0,1,2,3] ?_;(iterate 4 (refine tk1 (oi:=?_) (v:=?_) (by kernel_rfl) (by first | exact hSn | exact hHeld) ?_ ?_ ?_ ?_ ?_;rotate_left 2;(simp only [xgA,xgB,xgC];rfl);rfl;(intro wS hSw;obtain ⟨⟨A0,A1,A2,A3⟩,B0,B1,B2,B3⟩:=hSw;go_simp;try with_reducible rfl);(exact fun _ _ _ h=>h);(try simp only [Act.put,xgD,xgE,xgF])));refine tkE ?_);((refine qaa 4 (o:=?_) (by kernel_rfl) ?_ ?_;rotate_left 1;(simp only [xgA,xgB,xgC];rfl);intro K hK);go_simp;(refine (C4.out wd (Ext.refl _)).mono ?_);rintro e_ w9 ⟨u,rfl,hu,e2⟩;go_wp2_with (fail);(try clear hSn);(have hSn:=hHeld.ext e2);(refine hK.out _ _ (fun _=>hSn) ?_);clear hK K;(try simp only [Act.put,xgD,xgE,xgF]));((refine qaa 5 (o:=?_) (by kernel_rfl) ?_ ?_;rotate_left 1;(simp only [xgA,xgB,xgC];rfl);intro K hK);go_simp;(refine (C5.out w9 u e2 hu).mono ?_);rintro e_ w10 ⟨v4,rfl,hv4,e5⟩;go_wp2_with (fail);(try clear hSn);(have hSn:=hHeld.ext (e2.trans e5));(refine hK.out _ _ (fun _=>hSn) ?_);clear hK K;(try simp only [Act.put,xgD,xgE,xgF]));have hE11:=HDR.out.trans (e2.trans e5);have hst11:=HST12.out.ext hE11;have hb11:=HB12.out.ext hE11;have hst12:=hst11.beside HMG.out HGG.out v4;have hb12:=hb11.put HMG.out hv4;obtain ⟨q0,q1,q2,q3⟩:=hb11.b.p4;have hfz:=hb11.b.frozen;have f0:=hfz 0;have f1:=hfz 1;have f2:=hfz 2;have f3:=hfz 3;obtain ⟨W13,hW13⟩ : ∃ W13,W13=set4 w10 g17 0 (.int .i64 v4.lv) (.bool v4.b) (.slice v4.a v4.n v4.p) (.slice v4.ka v4.kn v4.kp):=⟨_,rfl⟩
       rw [<- hW13] at hst12 hb12;unfold set4 at hW13;have HW13:=Lib.hid hW13;have HST13:=Lib.hid hst12;have HB13:=Lib.hid hb12;clear hE11 hst11 hb11 hst12 hb12 hW13 hfz hu hv4 e2 e5 C4 C5 HPd HXS HXC HM8 HDR HST12 HB12;(refine qaa 6 (o:=?_) (by kernel_rfl) ?_ ?_;rotate_left 1;(simp only [xgA,xgB,xgC];rfl);intro K hK);go_simp;rw [<- HW13.out];refine hK.out _ _ (fun h=>absurd rfl h) ?_;clear hK K HW13 q0 q1 q2 q3 f0 f1 f2 f3 hSn;refine qac (by kernel_rfl) ?_ _;clear hHeld
       have hen:(e:Int)<(n:Int):=by have:=HGE.out;omega
       obtain ⟨⟨_,q0⟩,⟨_,q1⟩,⟨_,q2⟩,⟨_,q3⟩,hfz,_⟩:=HST13.out.L.at e HGE.out.2.2;have f0:=hfz (e*4);have f1:=hfz (e*4+1);have f2:=hfz (e*4+2);have f3:=hfz (e*4+3);have hst14:=HST13.out.list HDI.out HGE.out.2.2 HB13.out.x;have hh14:=qag W13 gt (e*4) (.int .i64 v4.lv) (.bool v4.b) (.slice v4.a v4.n v4.p) (.slice v4.ka v4.kn v4.kp) g17 HGG.out.1;have hb14:=HB13.out.other (Kp.set4 HST13.out.mt (e*4) (.int .i64 v4.lv) (.bool v4.b) (.slice v4.a v4.n v4.p) (.slice v4.ka v4.kn v4.kp)) hh14;obtain ⟨W14,hW14⟩ : ∃ W14,W14=set4 W13 gt (e*4) (.int .i64 v4.lv) (.bool v4.b) (.slice v4.a v4.n v4.p) (.slice v4.ka v4.kn v4.kp):=⟨_,rfl⟩;rw [<- hW14] at hst14 hb14;unfold set4 at hW14;have HW14:=Lib.hid hW14;have HF:Hid (qrC M w n gt g12 g13 g14 g17 a b s c (qnE (qnE L D b) e c) za zb zs W14):=⟨MX,v4,hst14,hb14,HMG.out⟩;obtain ⟨C0,C1,C2,C3⟩:=HB13.out.b.p4;clear hst14 hb14 hh14 hW14 hfz HST13 HB13 HEND HKE HGG HDI HNM HMG HLB HP HC0 HQQ HQO;go_wp2;rw [<- HW14.out];clear HW14 q0 q1 q2 q3 f0 f1 f2 f3 C0 C1 C2 C3
       go_meet
       exact ⟨rfl,HF.out⟩
     case rest=>
      obtain ⟨wo,rfl⟩ : ∃ wo,wo=wc:=⟨_,rfl⟩;obtain ⟨rfl,MX,zc,hst9,hb9,hm17⟩:=hcut;have HST9:=Lib.hid hst9;have HB9:=Lib.hid hb9;have HMG9:=Lib.hid hm17;clear hst9 hb9 hm17 HCP HST8 HB8 HMG;rcases HEND.out with ⟨rfl,hF⟩ | ⟨he,s1,la,dv,r9,b',s',hs1,hla,hdv,hr9,hb',hs',hrun⟩
      ·have HF:Hid (qi0 M w n F (.returned (.slice (some ⟨gt,0,none⟩) n n)) wo):=HST9.out.ret HDI.out.2.1 hF;clear hF HST9 HB9 HEND HKE HDI HNM HGE;go_wp2;go_ret;exact HF.out
      ·have HS1:=Lib.hid hs1;have HLA:=Lib.hid hla;have HDV:=Lib.hid hdv;have HR9:=Lib.hid hr9;have HBQ:=Lib.hid hb';have HSQ:=Lib.hid hs';have HRQ:=Lib.hid hrun
       have hne0 : ¬ (e:Int)=0:=by omega
       have hne1:((e:Int) == 0)=false:=beq_eq_false_iff_ne.2 hne0;clear hs1 hla hdv hr9 hb' hs' hrun HEND he
       go_upto_region 15 with (fail)
       have HMB:=Lib.hid HST9.out.m;have HXA:=Lib.hid HST9.out.A.x;have HXS:=Lib.hid HST9.out.S.x;have HDR:Hid (Ext wo wo.drew):=(Ext.refl _).drew
       go_cut [19] (qtX MX dv wo.drew)
       case first=>
        have HPd:Hid (SG9 g12 g13 zs za wo.drew):=SG9.ext ⟨HST9.out.S.b.p4,HST9.out.A.b.p4⟩ HDR.out;have S0:S9 MX wo.drew wo.drew none none:=S9.start (HMB.out.ext HDR.out);have C2:Hid (∀ A B W',S9 MX wo.drew W' A B->Calls Tryz.prog 53 #[.agg (peA zs),.int .i64 (G:Int)] W' (qa8 (M9 MX A B) W' 4 s1)):=fun A B W' h=>HS1.out (M9 MX A B) W' zs h.mb (((HXS.out.ext HDR.out).more h.sub).ext h.e);have C5:Hid (∀ A B W',S9 MX wo.drew W' A B->Calls Tryz.prog 117 #[.agg (peA za),.int .i64 (J:Int)] W' (qa8 (M9 MX A B) W' 4 la)):=fun A B W' h=>HLA.out (M9 MX A B) W' za h.mb (((HXA.out.ext HDR.out).more h.sub).ext h.e);have C6:Hid (∀ A B W',S9 MX wo.drew W' A B -> ∀ p:PE,CRx (M9 MX A B) W' 4 p s1 -> ∀ q:PE,CRx (M9 MX A B) W' 4 q la->Calls Tryz.prog 55 #[.agg (peA p),.agg (peA q)] W' (qa8 (M9 MX A B) W' 4 dv)):=fun A B W' h p hp q hq=>HDV.out (M9 MX A B) W' p q h.mb hp hq;refine qad (SG9 g12 g13 zs za) 9 (by kernel_rfl) HPd.out (fun hHeld=>?_);clear HST9 HB9 HMG9 HMB HXA HXS HPd HS1 HLA HDV HR9 HBQ HSQ HRQ HKE HGG HDI HNM HGE HDN hne0;generalize wo.drew=wd at *;(refine tkB [0,1,3,4] ?_;(iterate 4 (refine tk1 (oi:=?_) (v:=?_) (by kernel_rfl) (by first | exact hSn | exact hHeld) ?_ ?_ ?_ ?_ ?_;rotate_left 2;(simp only [xgA,xgB,xgC];rfl);rfl;(intro wS hSw;obtain ⟨⟨A0,A1,A2,A3⟩,B0,B1,B2,B3⟩:=hSw;go_simp;try with_reducible rfl);(exact fun _ _ _ h=>h);(try simp only [Act.put,xgD,xgE,xgF])));refine tkE ?_);(refine qau 2 7 (oi:=?_) (oj:=?_) (by kernel_rfl) ?_ ?_ ?_ ?_;rotate_left 2;(simp only [xgA,xgB,xgC];rfl);(simp only [xgA,xgB,xgC];rfl);all_goals intro K hK)
        ·go_simp;refine (C2.out _ _ wd S0).mono ?_;rintro e v1 ⟨p,rfl,hp,D⟩;go_wp2_with (fail);have S1:=S0.call D;clear D
         try clear hSn
         have hSn:=hHeld.ext S1.e;refine hK.out _ _ (fun _=>hSn) ?_;clear hK K;(try simp only [Act.put,xgD,xgE,xgF]);(refine qau 5 7 (oi:=?_) (oj:=?_) (by kernel_rfl) ?_ ?_ ?_ ?_;rotate_left 2;(simp only [xgA,xgB,xgC];rfl);(simp only [xgA,xgB,xgC];rfl);all_goals intro K hK)
         ·go_simp;refine (C5.out _ _ v1 S1).mono ?_;rintro e v2 ⟨q,rfl,hq,D⟩;go_wp2_with (fail);have S2:=S1.call D;replace hp:=hp.ext D;clear D
          try clear hSn
          have hSn:=hHeld.ext S2.e;refine hK.out _ _ (fun _=>hSn) ?_;clear hK K;(try simp only [Act.put,xgD,xgE,xgF]);(refine qau 6 7 (oi:=?_) (oj:=?_) (by kernel_rfl) ?_ ?_ ?_ ?_;rotate_left 2;(simp only [xgA,xgB,xgC];rfl);(simp only [xgA,xgB,xgC];rfl);all_goals intro K hK)
          ·go_simp;refine (C6.out _ _ v2 S2 _ hp _ hq).mono ?_;rintro e v3 ⟨v,rfl,hv,D⟩;go_wp2_with (fail);have S3:=S2.call D;replace hp:=hp.ext D;replace hq:=hq.ext D;clear D
           try clear hSn
           have hSn:=hHeld.ext S3.e;refine hK.out _ _ (fun _=>hSn) ?_;clear hK K;(try simp only [Act.put,xgD,xgE,xgF]);(refine qaa 7 (o:=?_) (by kernel_rfl) ?_ ?_;rotate_left 1;(simp only [xgA,xgB,xgC];rfl);intro K hK);go_simp;have S4:=S3.allA;replace hp:=S3.keepA hp;replace hq:=S3.keepA hq;replace hv:=S3.keepA hv
           try clear hSn
           have hSn:=hHeld.ext S4.e;refine hK.out _ _ (fun _=>hSn) ?_;clear hK K;(try simp only [Act.put,xgD,xgE,xgF]);generalize v3.alloc (.cells zA 33)=v4 at *;generalize v3.heap.size=g4 at *;obtain ⟨W1,hW1,⟨q0,q1,q2,q3⟩,⟨f0,f1,f2,f3⟩,HP2⟩:=S4.put1 hv;unfold set4 at hW1;have hSn1:=hHeld.ext HP2.e;clear hSn;(refine qaa 8 (o:=?_) (by kernel_rfl) ?_ ?_;rotate_left 1;(simp only [xgA,xgB,xgC];rfl);intro K hK);go_simp;rw [<- hW1];clear hW1;refine hK.out _ _ (fun _=>hSn1) ?_;clear hK K q0 q1 q2 q3 f0 f1 f2 f3;(try simp only [Act.put,xgD,xgE,xgF]);refine qac (by kernel_rfl) ?_ _;go_wp2_with (fail)
           go_meet
           exact ⟨_,_,rfl,HP2⟩
          ·go_simp;have S5:=S2.allA;replace hp:=S2.keepA hp;replace hq:=S2.keepA hq
           try clear hSn
           have hSn:=hHeld.ext S5.e;refine hK.out _ _ (fun _=>hSn) ?_;clear hK K;(try simp only [Act.put,xgD,xgE,xgF]);generalize v2.alloc (.cells zA 33)=v5 at *;generalize v2.heap.size=g5 at *;(refine qaa 6 (o:=?_) (by kernel_rfl) ?_ ?_;rotate_left 1;(simp only [xgA,xgB,xgC];rfl);intro K hK);go_simp;refine (C6.out _ _ v5 S5 _ hp _ hq).mono ?_;rintro e v6 ⟨v,rfl,hv,D⟩;go_wp2_with (fail);have S6:=S5.call D;replace hp:=hp.ext D;replace hq:=hq.ext D;clear D
           try clear hSn
           have hSn:=hHeld.ext S6.e;refine hK.out _ _ (fun _=>hSn) ?_;clear hK K;(try simp only [Act.put,xgD,xgE,xgF]);obtain ⟨W1,hW1,⟨q0,q1,q2,q3⟩,⟨f0,f1,f2,f3⟩,HP2⟩:=S6.put1 hv;unfold set4 at hW1;have hSn1:=hHeld.ext HP2.e;clear hSn;(refine qaa 8 (o:=?_) (by kernel_rfl) ?_ ?_;rotate_left 1;(simp only [xgA,xgB,xgC];rfl);intro K hK);go_simp;rw [<- hW1];clear hW1;refine hK.out _ _ (fun _=>hSn1) ?_;clear hK K q0 q1 q2 q3 f0 f1 f2 f3;(try simp only [Act.put,xgD,xgE,xgF]);refine qac (by kernel_rfl) ?_ _;go_wp2_with (fail)
           go_meet
           exact ⟨_,_,rfl,HP2⟩
         ·go_simp;have S7:=S1.allA;replace hp:=S1.keepA hp
          try clear hSn
          have hSn:=hHeld.ext S7.e;refine hK.out _ _ (fun _=>hSn) ?_;clear hK K;(try simp only [Act.put,xgD,xgE,xgF]);generalize v1.alloc (.cells zA 33)=v7 at *;generalize v1.heap.size=g7 at *;(refine qaa 5 (o:=?_) (by kernel_rfl) ?_ ?_;rotate_left 1;(simp only [xgA,xgB,xgC];rfl);intro K hK);go_simp;refine (C5.out _ _ v7 S7).mono ?_;rintro e v8 ⟨q,rfl,hq,D⟩;go_wp2_with (fail);have S8:=S7.call D;replace hp:=hp.ext D;clear D
          try clear hSn
          have hSn:=hHeld.ext S8.e;refine hK.out _ _ (fun _=>hSn) ?_;clear hK K;(try simp only [Act.put,xgD,xgE,xgF]);(refine qaa 6 (o:=?_) (by kernel_rfl) ?_ ?_;rotate_left 1;(simp only [xgA,xgB,xgC];rfl);intro K hK);go_simp;refine (C6.out _ _ v8 S8 _ hp _ hq).mono ?_;rintro e v9 ⟨v,rfl,hv,D⟩;go_wp2_with (fail);have S9:=S8.call D;replace hp:=hp.ext D;replace hq:=hq.ext D;clear D
          try clear hSn
          have hSn:=hHeld.ext S9.e;refine hK.out _ _ (fun _=>hSn) ?_;clear hK K;(try simp only [Act.put,xgD,xgE,xgF]);obtain ⟨W1,hW1,⟨q0,q1,q2,q3⟩,⟨f0,f1,f2,f3⟩,HP2⟩:=S9.put1 hv;unfold set4 at hW1;have hSn1:=hHeld.ext HP2.e;clear hSn;(refine qaa 8 (o:=?_) (by kernel_rfl) ?_ ?_;rotate_left 1;(simp only [xgA,xgB,xgC];rfl);intro K hK);go_simp;rw [<- hW1];clear hW1;refine hK.out _ _ (fun _=>hSn1) ?_;clear hK K q0 q1 q2 q3 f0 f1 f2 f3;(try simp only [Act.put,xgD,xgE,xgF]);refine qac (by kernel_rfl) ?_ _;go_wp2_with (fail)
          go_meet
          exact ⟨_,_,rfl,HP2⟩
        ·go_simp;have S10:=S0.allA
         try clear hSn
         have hSn:=hHeld.ext S10.e;refine hK.out _ _ (fun _=>hSn) ?_;clear hK K;(try simp only [Act.put,xgD,xgE,xgF]);generalize wd.alloc (.cells zA 33)=v10 at *;generalize wd.heap.size=g10 at *;(refine qaa 2 (o:=?_) (by kernel_rfl) ?_ ?_;rotate_left 1;(simp only [xgA,xgB,xgC];rfl);intro K hK);go_simp;refine (C2.out _ _ v10 S10).mono ?_;rintro e v11 ⟨p,rfl,hp,D⟩;go_wp2_with (fail);have S11:=S10.call D;clear D
         try clear hSn
         have hSn:=hHeld.ext S11.e;refine hK.out _ _ (fun _=>hSn) ?_;clear hK K;(try simp only [Act.put,xgD,xgE,xgF]);(refine qaa 5 (o:=?_) (by kernel_rfl) ?_ ?_;rotate_left 1;(simp only [xgA,xgB,xgC];rfl);intro K hK);go_simp;refine (C5.out _ _ v11 S11).mono ?_;rintro e v12 ⟨q,rfl,hq,D⟩;go_wp2_with (fail);have S12:=S11.call D;replace hp:=hp.ext D;clear D
         try clear hSn
         have hSn:=hHeld.ext S12.e;refine hK.out _ _ (fun _=>hSn) ?_;clear hK K;(try simp only [Act.put,xgD,xgE,xgF]);(refine qaa 6 (o:=?_) (by kernel_rfl) ?_ ?_;rotate_left 1;(simp only [xgA,xgB,xgC];rfl);intro K hK);go_simp;refine (C6.out _ _ v12 S12 _ hp _ hq).mono ?_;rintro e v13 ⟨v,rfl,hv,D⟩;go_wp2_with (fail);have S13:=S12.call D;replace hp:=hp.ext D;replace hq:=hq.ext D;clear D
         try clear hSn
         have hSn:=hHeld.ext S13.e;refine hK.out _ _ (fun _=>hSn) ?_;clear hK K;(try simp only [Act.put,xgD,xgE,xgF]);obtain ⟨W1,hW1,⟨q0,q1,q2,q3⟩,⟨f0,f1,f2,f3⟩,HP2⟩:=S13.put1 hv;unfold set4 at hW1;have hSn1:=hHeld.ext HP2.e;clear hSn;(refine qaa 8 (o:=?_) (by kernel_rfl) ?_ ?_;rotate_left 1;(simp only [xgA,xgB,xgC];rfl);intro K hK);go_simp;rw [<- hW1];clear hW1;refine hK.out _ _ (fun _=>hSn1) ?_;clear hK K q0 q1 q2 q3 f0 f1 f2 f3;(try simp only [Act.put,xgD,xgE,xgF]);refine qac (by kernel_rfl) ?_ _;go_wp2_with (fail)
         go_meet
         exact ⟨_,_,rfl,HP2⟩
       case rest=>
        obtain ⟨g19,zv,rfl,hput⟩:=hcut;have hXW:Ext wo wc:=HDR.out.trans hput.e;have HST10:=Lib.hid (HST9.out.ext hXW);have HB10:=Lib.hid (HB9.out.ext hXW);have HP19:=Lib.hid hput.p;have HX19:=Lib.hid hput.x
        have HN19:Hid (g19≠g13/\g19≠g14/\g19≠g17):=by
         have h1:=HDR.out.size;have h2:=hput.f;have h3:=HST9.out.A.lt;have h4:=HST9.out.B.lt;have h5:=HB9.out.lt;exact ⟨by omega,by omega,by omega⟩
        clear hput hXW HST9 HB9 HMB HXA HXS HDR HS1 HLA HDV;have HDR:Hid (Ext wc wc.drew):=(Ext.refl _).drew;have HPd:Hid (SG3 g17 g14 g19 zc zb zv wc.drew):=SG3.ext ⟨HB10.out.b.p4,HST10.out.B.b.p4,HP19.out⟩ (Ext.refl _).drew;have HMB:=Lib.hid HST10.out.m;have HXA:=Lib.hid HST10.out.A.x;have HXB:=Lib.hid HST10.out.B.x;have C4:Hid (∀ wk,Ext wc.drew wk->Calls Tryz.prog 195 #[.agg (peA za),.agg (peA zb),.int .i64 (J:Int)] wk (qa8 MX wk 4 r9)):=fun wk he=>HR9.out MX wk za zb (HMB.out.ext (HDR.out.trans he)) (HXA.out.ext (HDR.out.trans he)) (HXB.out.ext (HDR.out.trans he));have C6:Hid (∀ wk u,Ext wc.drew wk->CRx MX wk 4 u r9->Calls Tryz.prog 196 #[.agg (peA u),.agg (peA zv)] wk (qa8 MX wk 4 b')):=fun wk u he hu=>HBQ.out MX wk u zv (HMB.out.ext (HDR.out.trans he)) hu (HX19.out.ext (HDR.out.trans he));have HA4:Hid (P4 wc.drew g13 za):=HST10.out.A.b.p4.ext HDR.out;clear HXA HXB HMB HR9 HBQ
        go_upto_region 16 with (fail)
        refine qad (SG3 g17 g14 g19 zc zb zv) 8 (by kernel_rfl) HPd.out (fun hHeld=>?_);generalize wc.drew=wd at *;(refine tkB [0,2,3,5] ?_;(iterate 4 (refine tk1 (oi:=?_) (v:=?_) (by kernel_rfl) (by first | exact hSn | exact hHeld) ?_ ?_ ?_ ?_ ?_;rotate_left 2;(simp only [xgA,xgB,xgC];rfl);rfl;(intro wS hSw;obtain ⟨⟨A0,A1,A2,A3⟩,⟨B0,B1,B2,B3⟩,D0,D1,D2,D3⟩:=hSw;go_simp;try with_reducible rfl);(exact fun _ _ _ h=>h);(try simp only [Act.put,xgD,xgE,xgF])));refine tkE ?_);obtain ⟨a0,a1,a2,a3⟩:=HA4.out;(refine qaa 1 (o:=?_) (by kernel_rfl) ?_ ?_;rotate_left 1;(simp only [xgA,xgB,xgC];rfl);intro K hK);go_simp;refine hK.out _ _ (fun _=>hHeld) ?_;clear hK K a0 a1 a2 a3 HA4;(try simp only [Act.put,xgD,xgE,xgF]);((refine qaa 4 (o:=?_) (by kernel_rfl) ?_ ?_;rotate_left 1;(simp only [xgA,xgB,xgC];rfl);intro K hK);go_simp;(refine (C4.out wd (Ext.refl _)).mono ?_);rintro e_ w9 ⟨u,rfl,hu,e2⟩;go_wp2_with (fail);(try clear hSn);(have hSn:=hHeld.ext e2);(refine hK.out _ _ (fun _=>hSn) ?_);clear hK K;(try simp only [Act.put,xgD,xgE,xgF]));((refine qaa 6 (o:=?_) (by kernel_rfl) ?_ ?_;rotate_left 1;(simp only [xgA,xgB,xgC];rfl);intro K hK);go_simp;(refine (C6.out w9 u e2 hu).mono ?_);rintro e_ w10 ⟨v5,rfl,hv5,e5⟩;go_wp2_with (fail);(try clear hSn);(have hSn:=hHeld.ext (e2.trans e5));(refine hK.out _ _ (fun _=>hSn) ?_);clear hK K;(try simp only [Act.put,xgD,xgE,xgF]));have hE11:=HDR.out.trans (e2.trans e5);have hst11:=HST10.out.ext hE11;have hb11:=HB10.out.ext hE11;have hst12:=hst11.putA HDI.out hb11.x
        have hv12:=hv5.kp (Kp.set4 hst11.m3 0 (.int .i64 zc.lv) (.bool zc.b) (.slice zc.a zc.n zc.p) (.slice zc.ka zc.kn zc.kp));have hh:=fun q=>qag w10 g13 0 (.int .i64 zc.lv) (.bool zc.b) (.slice zc.a zc.n zc.p) (.slice zc.ka zc.kn zc.kp) q;have hS12:SG3 g17 g14 g19 zc zb zv (set4 w10 g13 0 (.int .i64 zc.lv) (.bool zc.b) (.slice zc.a zc.n zc.p) (.slice zc.ka zc.kn zc.kp)):=⟨qak hb11.b.p4 (hh g17 HGG.out.2.2.1),hst12.B.b.p4,qak (HP19.out.ext hE11) (hh g19 HN19.out.1)⟩;obtain ⟨q0,q1,q2,q3⟩:=hst11.A.b.p4;have hfz:=hst11.A.b.frozen;have f0:=hfz 0;have f1:=hfz 1;have f2:=hfz 2;have f3:=hfz 3;obtain ⟨W12,hW12⟩ : ∃ W12,W12=set4 w10 g13 0 (.int .i64 zc.lv) (.bool zc.b) (.slice zc.a zc.n zc.p) (.slice zc.ka zc.kn zc.kp):=⟨_,rfl⟩;rw [<- hW12] at hst12 hv12 hS12;unfold set4 at hW12;have HW12:=Lib.hid hW12;have HST12:=Lib.hid hst12;have HV12:=Lib.hid hv12;clear hE11 hst11 hb11 hst12 hv12 hh hW12 hfz hu hv5 e2 e5 C4 C6 HPd HDR HST10 HB10 HP19 HX19;(refine qaa 7 (o:=?_) (by kernel_rfl) ?_ ?_;rotate_left 1;(simp only [xgA,xgB,xgC];rfl);intro K hK);go_simp;rw [<- HW12.out];clear HW12 q0 q1 q2 q3 f0 f1 f2 f3 hSn;refine hK.out _ _ (fun _=>hS12) ?_;clear hK K;(try simp only [Act.put,xgD,xgE,xgF]);have hst13:=HST12.out.putB HDI.out HV12.out;obtain ⟨q0,q1,q2,q3⟩:=HST12.out.B.b.p4;have hfz:=HST12.out.B.b.frozen;have f0:=hfz 0;have f1:=hfz 1;have f2:=hfz 2;have f3:=hfz 3;obtain ⟨W13,hW13⟩ : ∃ W13,W13=set4 W12 g14 0 (.int .i64 v5.lv) (.bool v5.b) (.slice v5.a v5.n v5.p) (.slice v5.ka v5.kn v5.kp):=⟨_,rfl⟩
        rw [<- hW13] at hst13;unfold set4 at hW13;have HW13:=Lib.hid hW13;have HST13:=Lib.hid hst13;clear hst13 hW13 hfz HST12 HV12;(refine qaa 8 (o:=?_) (by kernel_rfl) ?_ ?_;rotate_left 1;(simp only [xgA,xgB,xgC];rfl);intro K hK);go_simp;rw [<- HW13.out];refine hK.out _ _ (fun h=>absurd rfl h) ?_;clear hK K HW13 q0 q1 q2 q3 f0 f1 f2 f3 hS12;refine qac (by kernel_rfl) ?_ _;clear hHeld;have C2:=Lib.hid (HSQ.out MX W13 zc HST13.out.m HST13.out.A.x);obtain ⟨q0,q1,q2,q3⟩:=HST13.out.A.b.p4;go_wp2_with (fail);refine C2.out.mono ?_;rintro e9 w14 ⟨v6,rfl,hv6,e6⟩;clear q0 q1 q2 q3;have hst14:=HST13.out.ext e6;have hst15:=hst14.putS HDI.out hv6;obtain ⟨q0,q1,q2,q3⟩:=hst14.S.b.p4;have hfz:=hst14.S.b.frozen;have f0:=hfz 0;have f1:=hfz 1;have f2:=hfz 2;have f3:=hfz 3;obtain ⟨W15,hW15⟩ : ∃ W15,W15=set4 w14 g12 0 (.int .i64 v6.lv) (.bool v6.b) (.slice v6.a v6.n v6.p) (.slice v6.ka v6.kn v6.kp):=⟨_,rfl⟩;rw [<- hW15] at hst15;unfold set4 at hW15;have HW15:=Lib.hid hW15;have HR15:Hid (qs9 M w J n gt g12 g13 g14 F W15 k):=⟨MX,c,b',s',L',zc,v5,v6,hst15,HRQ.out⟩;clear hst14 hst15 hW15 hfz hv6 e6 C2 HST13 HRQ HSQ HDI HNM HGE HDN HMG9 HGG HN19;go_wp2;rw [<- HW15.out];clear HW15 q0 q1 q2 q3 f0 f1 f2 f3
        go_roundw
        case rel=>exact ⟨k,HR15.out⟩
        case measure=>
         have h:=(qfo HR15.out).2 k HR15.out;have:=HKE.out;omega


theorem qhV (x:Nat->Int) {l:List Tm} (h:NN l):ev x (qbz l) = - ev x l:=by
 show ev x (pmul l [(-1,Mo.zero)])=_;rw [qbH x h (qdn (-1)),qdp,Int.mul_neg,Int.mul_one]
theorem qnl {J:Nat} (h1:1<=J) (h4:J<=4) (e:Int) (l:List Tm):Sim (ck J e (qbz l)) (qbz (ck J e l)):=fun m=>by
 rw [qaQ h1 h4,qaL,qaL,qaQ h1 h4]
 split
 ·rfl
 ·rfl
theorem ckP {J:Nat} (h1:1<=J) (h4:J<=4) {P:Nat->List Tm} (hP : ∀ i,Fre J (P i)) (e:Nat) : ∀ N:Nat,Sim (ck J (e:Int) (poly J N P)) (if e<N then P e else [])
 | 0=>fun _=>rfl
 | N+1=>fun m=>by
  have ih:=ckP h1 h4 hP e N m;rw [qaQ h1 h4] at ih;rw [qaQ h1 h4,qaf,qae,qaA]
  have key:m.get J=0->qab (P N) (Mo.sub (Mo.add m (xp J (e:Int))) (xp J (N:Int)))=if e=N then qab (P e) m else 0:=fun h0=>by
   by_cases he:e=N
   ·subst he;rw [if_pos rfl]
    congr 1
    exact ((Mo.add_eq _ _ _).1 rfl).symm
   ·rw [if_neg he];refine Classical.byContradiction fun hc=>?_;have:=hP N _ hc;rw [qbG,qas,h0,qat J J _ h1 h4,qat J J _ h1 h4,if_pos rfl,if_pos rfl] at this;omega
  by_cases h0:m.get J=0
  ·rw [if_pos h0] at ih ⊢;rw [ih,key h0]
   by_cases he:e=N
   ·subst he;rw [if_neg (Nat.lt_irrefl _),if_pos rfl,if_pos (Nat.lt_succ_self _)];show 0+_=_;omega
   ·rw [if_neg he]
    by_cases hl:e<N
    ·rw [if_pos hl,if_pos (by omega)];omega
    ·rw [if_neg hl,if_neg (by omega)];rfl
  ·rw [if_neg h0] at ih ⊢
   by_cases hl:e<N+1
   ·rw [if_pos hl];refine (Classical.byContradiction fun hc=>?_);exact h0 (hP e m fun h=>hc h.symm)
   ·rw [if_neg hl];rfl
theorem qm3 {J:Nat} (h1:1<=J) (h4:J<=4) {l:List Tm} (nl:NN l) {n:Nat} (h0 : ∀ i:Nat,n<i->Sim (ck J (i:Int) l) []) (hn:n=0 ∨ ¬ Sim (ck J (n:Int) l) []):DgR J l n:=by
 refine ⟨fun m hm=>?_,hn.imp id fun h=>qoT h1 h4 h⟩
 have hnn:m.nn=true:=by
  cases hq:m.nn with
  | true=>rfl
  | false=>exact absurd (nl m hq) hm
 have h5:=qcw hnn J;refine Classical.byContradiction fun hc=>?_;have h6:=h0 (m.get J).toNat (by omega);rw [show (((m.get J).toNat:Nat):Int)=m.get J by omega] at h6;exact qg7 h1 h4 hm h6
theorem qso {J:Nat} (h1:1<=J) (h4:J<=4) {l:List Tm} (nl:NN l) (h0 : ∀ i:Nat,Sim (ck J (i:Int) l) []):Sim l []:=fun m=>by
 refine Classical.byContradiction fun hm=>?_
 have hnn:m.nn=true:=by
  cases hq:m.nn with
  | true=>rfl
  | false=>exact absurd (nl m hq) hm
 have h5:=qcw hnn J;have h6:=h0 (m.get J).toNat;rw [show (((m.get J).toNat:Nat):Int)=m.get J by omega] at h6;exact qg7 h1 h4 hm h6
theorem DgR.ckz {J n:Nat} (h1:1<=J) (h4:J<=4) {l:List Tm} (h:DgR J l n) {i:Nat} (hi:n<i):Sim (ck J (i:Int) l) []:=qrj h1 h4 h.1 hi
theorem DgR.ckn {J n:Nat} (h1:1<=J) (h4:J<=4) {l:List Tm} (h:DgR J l n) (hn:1<=n) : ¬ Sim (ck J (n:Int) l) []:=by
 obtain ⟨m,hm,e⟩:=h.2.resolve_left (by omega);rw [<- e];exact qg7 h1 h4 hm
structure Sz (B A:Nat) (l:List Tm):Prop where
 n:NN l
 d:Deg B l
 a:dlen (nrm l)<=A
theorem Sz.ck {B A J:Nat} {l:List Tm} (h:Sz B A l) (h1:1<=J) (h4:J<=4) (e:Int):Cof J B A (ck J e l):=qng h1 h4 h.n h.d h.a e
theorem Cof.sz {J B A:Nat} {l:List Tm} (h:Cof J B A l):Sz B A l:=⟨h.1,h.2.2.1,h.2.2.2⟩
theorem qrt.sim {J:Nat} {a b c a' b' c':List Tm} (h:qrt J a b c) (ha:Sim a a') (hb:Sim b b') (hc:Sim c c'):qrt J a' b' c':=fun M W x y hM hx hy=>(h M W x y hM (hx.sim ha.symm) (hy.sim hb.symm)).mono fun _ _ k=>k.sim hc
theorem qq9 {J:Nat} {a:List Tm} {z:Int} (h1:1<=J) (h4:J<=4) (nn:NN a) (hz:DgV J a z):qs7 J a z:=fun M W x hM hx=>qb6 M x a J z W h1 h4 nn hz hM hx.pi


def mP (J:Nat) (f g:List Tm):List Tm:=pmul (qb3 J f 2) (qb3 J g 1) ++ qbz (pmul (qb3 J f 1) (qb3 J g 2))
def mQ (J:Nat) (f g:List Tm):List Tm:=pmul (qb3 J f 2) (qb3 J g 0) ++ qbz (pmul (qb3 J f 0) (qb3 J g 2))
def mW (J:Nat) (f g:List Tm):List Tm:=pmul (qb3 J f 1) (qb3 J g 0) ++ qbz (pmul (qb3 J f 0) (qb3 J g 1))
def mR (J:Nat) (f g:List Tm):List Tm:=pmul (mQ J f g) (mQ J f g) ++ qbz (pmul (mP J f g) (mW J f g))
def mS (J:Nat) (f g:List Tm):List Tm:=poly J 2 fun i=>if i=0 then mQ J f g else mP J f g
section
variable {J:Nat} {f g:List Tm} (h1:1<=J) (h4:J<=4) (nf:NN f) (ng:NN g)
include h1 h4 nf ng
end


section
variable {J:Nat} {f g:List Tm} (h1:1<=J) (h4:J<=4) (hf:Sz 3 10 f) (hg:Sz 3 10 g)
include h1 h4 hf hg
end
def f22 (J:Nat) (f g:List Tm):Nat->List Tm:=fun j=>if j=0 then mR J f g else mS J f g
theorem qrS:Sz 0 1 [((1:Int),Mo.zero)]:=⟨qdn 1,fun m hm k=>by
 have h:m=Mo.zero:=Classical.byContradiction fun hc=>hm (by simp only [qab];rw [if_neg fun e=>hc e.symm];rfl)
 rw [h,qbc];omega,by decide⟩
theorem qi8 {B A k:Nat} {l:List Tm} (h:Sz B A l):Sz (k*B) (k*A+1) (qbm l k):=by
 induction k with
 | zero=>rw [Nat.zero_mul,Nat.zero_mul];exact qrS
 | succ k ih=>
  rw [qcu];refine ⟨qez ih.n h.n,?_,?_⟩
  ·rw [Nat.succ_mul];exact Deg.pmul ih.d h.d ih.n
  ·rw [qbb,Nat.succ_mul];have:=qaD (nrm (qbm l k)) (nrm l);have:=ih.a;have:=h.a;omega
theorem qjT (x:Nat->Int) (l:List Tm):ev x (qbm l 0)=1:=qdp x 1


theorem Sz.mono {B A C D:Nat} {l:List Tm} (h:Sz B A l) (hB:B<=C) (hA:A<=D):Sz C D l:=⟨h.n,h.d.mono hB,Nat.le_trans h.a hA⟩
theorem DgR.nz {J n:Nat} {l:List Tm} (h1:1<=J) (h4:J<=4) (h:DgR J l n) (hn:1<=n) : ¬ Sim l []:=fun hs=>h.ckn h1 h4 hn (qa0 hs)


section
variable {J:Nat} {f g:List Tm} (h1:1<=J) (h4:J<=4) (hf:Sz 3 10 f) (hg:Sz 3 10 g)
include h1 h4 hf hg
end
end Go.Proofs.YtmcfpnmoklnhoaaGreat
