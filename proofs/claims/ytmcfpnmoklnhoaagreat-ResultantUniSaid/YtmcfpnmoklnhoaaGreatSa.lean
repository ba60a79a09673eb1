/- Sa -/
import Derived.Test.YtmcfpnmoklnhoaaGreatQc
set_option linter.unusedVariables false
set_option maxRecDepth 100000
set_option maxHeartbeats 400000000
set_option linter.unusedSimpArgs false
namespace Go.Proofs.YtmcfpnmoklnhoaaGreat
open Go.RowKit
def JW(J:Nat)(a l:List Tm):Prop:=∀(M:Nat->Prop)(W:World)(x:PE),Mb M W->aN M W 4 x a->Calls Tryz.prog 117 #[.agg (ak x),.int .i64 (J:Int)] W (dO M W 4 l)
def O7(J:Nat)(a:List Tm)(z:Int):Prop:=∀(M:Nat->Prop)(W:World)(x:PE),Mb M W->aN M W 4 x a->Calls Tryz.prog 43 #[.agg (ak x),.int .i64 (J:Int)] W λe w'=>e=.returned (.int .i64 z)/\Ext W w'
def MH(l:List Tm)(k:Nat)(s:List Tm):Prop:=∀(M:Nat->Prop)(W:World)(x:PE),Mb M W->aN M W 4 x l->Calls Tryz.prog 53 #[.agg (ak x),.int .i64 (k:Int)] W (dO M W 4 s)
def Vg(a b c:List Tm):Prop:=∀(M:Nat->Prop)(W:World)(x y:PE),Mb M W->aN M W 4 x a->aN M W 4 y b->Calls Tryz.prog 55 #[.agg (ak x),.agg (ak y)] W (dO M W 4 c)
def Vi(a b c:List Tm):Prop:=∀(M:Nat->Prop)(W:World)(x y:PE),Mb M W->aN M W 4 x a->aN M W 4 y b->Calls Tryz.prog 196 #[.agg (ak x),.agg (ak y)] W (dO M W 4 c)
def J3(J:Nat)(a b r:List Tm):Prop:=∀(M:Nat->Prop)(W:World)(x y:PE),Mb M W->aN M W 4 x a->aN M W 4 y b->Calls Tryz.prog 195 #[.agg (ak x),.agg (ak y),.int .i64 (J:Int)] W (dO M W 4 r)
def Ei(L:Nat->List Tm)(i:Nat)(b:List Tm):Nat->List Tm:=λj=>if j=i then b else L j
def YT(J:Nat)(b s:List Tm)(gap e:Nat)(L L':Nat->List Tm)(c:List Tm):Prop:=
 (gap=1/\c=b/\L'=L)\/(1<gap/\L'=Ei L e c/\∃lb p c0 q,JW J b lb/\MH lb (gap-1) p/\Vg p b c0/\MH s (gap-1) q/\Vi c0 q c)
def O6(J n:Nat)(F:Nat->List Tm):Nat->List Tm->List Tm->List Tm->(Nat->List Tm)->Prop
 |0,_,_,_,_=>False
 |k+1,a,b,s,L=>∃d:Int,O7 J a d/\ -1<=d/\d<=1000/\((O7 J b (-1)/\∀i,i<n->af (L i) (F i))\/∃(dn e:Nat)(c:List Tm)(L':Nat->List Tm),d=(dn:Int)/\O7 J b (e:Int)/\e<dn/\dn<=n/\YT J b s (dn-e) e (Ei L (dn-1) b) L' c/\
  ((e=0/\∀i,i<n->af (L' i) (F i))\/(0<e/\∃s1 la dv r b' s',MH s (dn-e) s1/\JW J a la/\Vg s1 la dv/\J3 J a b r/\Vi r dv b'/\JW J c s'/\O6 J n F k c b' s' L')))
structure oO(M:Nat->Prop)(w:World)(g:Nat)(z:PE)(l:List Tm):Prop where
 b:aG w g 33 4 (arr (ak z))
 x:aN M w 4 z l
theorem oO.ext{M:Nat->Prop}{w w':World}{g:Nat}{z:PE}{l:List Tm}(h:oO M w g z l)(he:Ext w w'):oO M w' g z l:=⟨h.b.ext he,h.x.ext he⟩
theorem oO.more{M M':Nat->Prop}{w:World}{g:Nat}{z:PE}{l:List Tm}(h:oO M w g z l)(hm:∀b,M' b->M b\/w.heap.size<=b):oO M' w g z l:=⟨h.b,h.x.more hm⟩
theorem oO.other{M:Nat->Prop}{w w':World}{g:Nat}{z:PE}{l:List Tm}(h:oO M w g z l)(hk:Kp M w w')(hh:w'.heap[g]?=w.heap[g]?):oO M w' g z l:=⟨h.b.of_heap hh,h.x.kp hk⟩
theorem oO.put{M:Nat->Prop}{w:World}{g:Nat}{z u:PE}{l r:List Tm}(h:oO M w g z l)(hg:M g)(hu:aN M w 4 u r):oO M (aM w g 0 (.int .i64 u.lv) (.bool u.b) (.slice u.a u.n u.p) (.slice u.ka u.kn u.kp)) g u r:=
 ⟨Ka h.b u,hu.kp (Kp.aM hg _ _ _ _ _)⟩
theorem oO.lt{M:Nat->Prop}{w:World}{g:Nat}{z:PE}{l:List Tm}(h:oO M w g z l):g<w.heap.size:=h.b.lt
structure mY(M:Nat->Prop)(w:World)(n gt g12 g13 g14:Nat)(MW:Nat->Prop)(wr:World)(a b s:List Tm)(L:Nat->List Tm)(za zb zs:PE):Prop where
 A:oO MW wr g13 za a
 B:oO MW wr g14 zb b
 S:oO MW wr g12 zs s
 L:Kids MW wr 4 gt n L
 m:Mb MW wr
 e:Ext w wr
 sub:∀b,M b->MW b
 sup:∀b,MW b->M b\/w.heap.size<=b
 mt:MW gt
 m2:MW g12
 m3:MW g13
 m4:MW g14
def O9(w:World)(gt g12 g13 g14:Nat):Prop:=(gt≠g12/\gt≠g13/\gt≠g14/\g12≠g13/\g12≠g14/\g13≠g14)/\w.heap.size<=gt/\w.heap.size<=g12/\w.heap.size<=g13/\w.heap.size<=g14
section
variable{M:Nat->Prop}{w:World}{n gt g12 g13 g14:Nat}{MW:Nat->Prop}{wr:World}{a b s:List Tm}{L:Nat->List Tm}{za zb zs:PE}
theorem mY.ext(h:mY M w n gt g12 g13 g14 MW wr a b s L za zb zs){w':World}(he:Ext wr w'):mY M w n gt g12 g13 g14 MW w' a b s L za zb zs:=
 ⟨h.A.ext he,h.B.ext he,h.S.ext he,h.L.ext he,h.m.ext he,h.e.trans he,h.sub,h.sup,h.mt,h.m2,h.m3,h.m4⟩
theorem mY.more(h:mY M w n gt g12 g13 g14 MW wr a b s L za zb zs){w':World}(he:Ext wr w'){g:Nat}(hg:wr.heap.size<=g)(Rn:g<w'.heap.size):mY M w n gt g12 g13 g14 (λq=>MW q\/q=g) w' a b s L za zb zs:=by
 have hm:∀q,(MW q\/q=g)->MW q\/wr.heap.size<=q:=λq hq=>hq.imp id λe=>by omega
 exact⟨(h.A.more hm).ext he,(h.B.more hm).ext he,(h.S.more hm).ext he,(h.L.more hm).ext he,pz (h.m.ext he) Rn,h.e.trans he,λq hq=>.inl (h.sub q hq),λq hq=>hq.elim (h.sup q) λe=>.inr (by have:=h.e.size;omega),.inl h.mt,.inl h.m2,.inl h.m3,.inl h.m4⟩
theorem mY.list(h:mY M w n gt g12 g13 g14 MW wr a b s L za zb zs)(hd:O9 w gt g12 g13 g14){i:Nat}(hi:i<n){u:PE}{r:List Tm}(hu:aN MW wr 4 u r):mY M w n gt g12 g13 g14 MW (aM wr gt (i*4) (.int .i64 u.lv) (.bool u.b) (.slice u.a u.n u.p) (.slice u.ka u.kn u.kp)) a b s (Ei L i r) za zb zs:=by
 have hk:Kp MW wr (aM wr gt (i*4) (.int .i64 u.lv) (.bool u.b) (.slice u.a u.n u.p) (.slice u.ka u.kn u.kp)):=Kp.aM h.mt _ _ _ _ _;have hh:=λq=>iI wr gt (i*4) (.int .i64 u.lv) (.bool u.b) (.slice u.a u.n u.p) (.slice u.ka u.kn u.kp) q;exact⟨h.A.other hk (hh _ λe=>hd.1.2.1 e.symm),h.B.other hk (hh _ λe=>hd.1.2.2.1 e.symm),h.S.other hk (hh _ λe=>hd.1.1 e.symm),h.L.set h.mt i hi hu,h.m.size hk.1,h.e.aM hd.2.1 _ _ _ _ _,h.sub,h.sup,h.mt,h.m2,h.m3,h.m4⟩
theorem mY.beside(h:mY M w n gt g12 g13 g14 MW wr a b s L za zb zs){g:Nat}(hg:MW g)(h1:g≠gt/\g≠g12/\g≠g13/\g≠g14/\w.heap.size<=g)(u:PE):mY M w n gt g12 g13 g14 MW (aM wr g 0 (.int .i64 u.lv) (.bool u.b) (.slice u.a u.n u.p) (.slice u.ka u.kn u.kp)) a b s L za zb zs:=by
 have hk:Kp MW wr (aM wr g 0 (.int .i64 u.lv) (.bool u.b) (.slice u.a u.n u.p) (.slice u.ka u.kn u.kp)):=Kp.aM hg _ _ _ _ _;have hh:=λq=>iI wr g 0 (.int .i64 u.lv) (.bool u.b) (.slice u.a u.n u.p) (.slice u.ka u.kn u.kp) q;exact⟨h.A.other hk (hh _ λe=>h1.2.2.1 e.symm),h.B.other hk (hh _ λe=>h1.2.2.2.1 e.symm),h.S.other hk (hh _ λe=>h1.2.1 e.symm),h.L.kp (hh _ λe=>h1.1 e.symm) hk,h.m.size hk.1,h.e.aM h1.2.2.2.2 _ _ _ _ _,h.sub,h.sup,h.mt,h.m2,h.m3,h.m4⟩
theorem mY.qAw(h:mY M w n gt g12 g13 g14 MW wr a b s L za zb zs)(hd:O9 w gt g12 g13 g14){u:PE}{r:List Tm}(hu:aN MW wr 4 u r):mY M w n gt g12 g13 g14 MW (aM wr g13 0 (.int .i64 u.lv) (.bool u.b) (.slice u.a u.n u.p) (.slice u.ka u.kn u.kp)) r b s L u zb zs:=by
 have hk:Kp MW wr (aM wr g13 0 (.int .i64 u.lv) (.bool u.b) (.slice u.a u.n u.p) (.slice u.ka u.kn u.kp)):=Kp.aM h.m3 _ _ _ _ _;have hh:=λq=>iI wr g13 0 (.int .i64 u.lv) (.bool u.b) (.slice u.a u.n u.p) (.slice u.ka u.kn u.kp) q;exact⟨h.A.put h.m3 hu,h.B.other hk (hh _ λe=>hd.1.2.2.2.2.2 e.symm),h.S.other hk (hh _ hd.1.2.2.2.1),h.L.kp (hh _ hd.1.2.1) hk,h.m.size hk.1,h.e.aM hd.2.2.2.1 _ _ _ _ _,h.sub,h.sup,h.mt,h.m2,h.m3,h.m4⟩
theorem mY.qAx(h:mY M w n gt g12 g13 g14 MW wr a b s L za zb zs)(hd:O9 w gt g12 g13 g14){u:PE}{r:List Tm}(hu:aN MW wr 4 u r):mY M w n gt g12 g13 g14 MW (aM wr g14 0 (.int .i64 u.lv) (.bool u.b) (.slice u.a u.n u.p) (.slice u.ka u.kn u.kp)) a r s L za u zs:=by
 have hk:Kp MW wr (aM wr g14 0 (.int .i64 u.lv) (.bool u.b) (.slice u.a u.n u.p) (.slice u.ka u.kn u.kp)):=Kp.aM h.m4 _ _ _ _ _;have hh:=λq=>iI wr g14 0 (.int .i64 u.lv) (.bool u.b) (.slice u.a u.n u.p) (.slice u.ka u.kn u.kp) q;exact⟨h.A.other hk (hh _ hd.1.2.2.2.2.2),h.B.put h.m4 hu,h.S.other hk (hh _ hd.1.2.2.2.2.1),h.L.kp (hh _ hd.1.2.2.1) hk,h.m.size hk.1,h.e.aM hd.2.2.2.2 _ _ _ _ _,h.sub,h.sup,h.mt,h.m2,h.m3,h.m4⟩
theorem mY.qAy(h:mY M w n gt g12 g13 g14 MW wr a b s L za zb zs)(hd:O9 w gt g12 g13 g14){u:PE}{r:List Tm}(hu:aN MW wr 4 u r):mY M w n gt g12 g13 g14 MW (aM wr g12 0 (.int .i64 u.lv) (.bool u.b) (.slice u.a u.n u.p) (.slice u.ka u.kn u.kp)) a b r L za zb u:=by
 have hk:Kp MW wr (aM wr g12 0 (.int .i64 u.lv) (.bool u.b) (.slice u.a u.n u.p) (.slice u.ka u.kn u.kp)):=Kp.aM h.m2 _ _ _ _ _;have hh:=λq=>iI wr g12 0 (.int .i64 u.lv) (.bool u.b) (.slice u.a u.n u.p) (.slice u.ka u.kn u.kp) q;exact⟨h.A.other hk (hh _ λe=>hd.1.2.2.2.1 e.symm),h.B.other hk (hh _ λe=>hd.1.2.2.2.2.1 e.symm),h.S.put h.m2 hu,h.L.kp (hh _ hd.1.1) hk,h.m.size hk.1,h.e.aM hd.2.2.1 _ _ _ _ _,h.sub,h.sup,h.mt,h.m2,h.m3,h.m4⟩
end
def J2(M:Nat->Prop)(w:World)(n:Nat)(F:Nat->List Tm)(e:Ending)(w':World):Prop:=∃gl:Nat,e=.returned (.slice (some ⟨gl,0,none⟩) n n)/\w.heap.size<=gl/\Kids (λb=>M b\/b=gl) w' 4 gl n F/\Ext w w'
theorem mY.ret{M:Nat->Prop}{w:World}{n gt g12 g13 g14:Nat}{MW:Nat->Prop}{wr:World}{a b s:List Tm}{L F:Nat->List Tm}{za zb zs:PE}(h:mY M w n gt g12 g13 g14 MW wr a b s L za zb zs)(kR:w.heap.size<=gt)(hF:∀i,i<n->af (L i) (F i)):J2 M w n F (.returned (.slice (some ⟨gt,0,none⟩) n n)) wr:=
 ⟨gt,rfl,kR,(h.L.congr hF).more λb hb=>.inl (hb.elim (h.sub b) λe=>by rw[e];exact h.mt),h.e⟩
theorem qyP{P:Nat->Prop}:∀k,P k->∃j,P j/\∀i,P i->j<=i:=by
 intro k
 induction k using Nat.strongRecOn with
 |_ k ih=>
  intro hk
  by_cases h:∃i,P i/\i<k
  ·obtain⟨i,hi,hlt⟩:=h;exact ih i hlt hi
  ·exact⟨k,hk,λi hi=>Nat.le_of_not_lt λhl=>h ⟨i,hi,hl⟩⟩
noncomputable def XO(P:Nat->Prop):Nat:=Classical.epsilon λk=>P k/\∀j,P j->k<=j
theorem qoe{P:Nat->Prop}{k:Nat}(h:P k):P (XO P)/\∀j,P j->XO P<=j:=
 Classical.epsilon_spec (p:=λk=>P k/\∀j,P j->k<=j) (qyP k h)
structure qio(M':Nat->Prop)(wd W:World)(a b:Nat)(x y:PE)(l r:List Tm):Prop where
 e:Ext wd W
 A:oO (M9 M' (some a) (some b)) W a x l
 B:oO (M9 M' (some a) (some b)) W b y r
 m:Mb (M9 M' (some a) (some b)) W
 la:wd.heap.size<=a
 lb:wd.heap.size<=b
 ne:b≠a
theorem S9.qpC{M':Nat->Prop}{wd wk:World}{a b:Nat}{x y:PE}{l r:List Tm}(h:S9 M' wd wk (some a) (some b))(yg:aN M' wd 4 x l)(hy:aN (M9 M' (some a) (some b)) wk 4 y r):
 ∃W1,W1=aM wk a 0 (.int .i64 x.lv) (.bool x.b) (.slice x.a x.n x.p) (.slice x.ka x.kn x.kp)/\Z4 wk a/\LM wk a/\Ext wd W1/\Z4 W1 b/\LM W1 b/\
 ∃W2,W2=aM W1 b 0 (.int .i64 y.lv) (.bool y.b) (.slice y.a y.n y.p) (.slice y.ka y.kn y.kp)/\qio M' wd W2 a b x y l r:=by
 obtain⟨hB,hw⟩:=h.a a rfl;obtain⟨hB',hw'⟩:=h.b b rfl;have hne:b≠a:=λe=>h.ne a rfl (by rw[e]);have hx:aN (M9 M' (some a) (some b)) wk 4 x l:=(yg.more h.sub).ext h.e;have k1:Kp (M9 M' (some a) (some b)) wk (aM wk a 0 (.int .i64 x.lv) (.bool x.b) (.slice x.a x.n x.p) (.slice x.ka x.kn x.kp)):=Kp.aM (.inr (.inl rfl)) _ _ _ _ _;have b1:=Ka hB x;have b2:=hB'.of_heap (iI wk a 0 (.int .i64 x.lv) (.bool x.b) (.slice x.a x.n x.p) (.slice x.ka x.kn x.kp) b hne);have e1:=h.e.aM hw 0 (.int .i64 x.lv) (.bool x.b) (.slice x.a x.n x.p) (.slice x.ka x.kn x.kp);have wR:=h.mb.size k1.1;have gY:=hx.kp k1;have jh:=hy.kp k1;refine⟨_,rfl,hB.z4,hB.Nu,e1,b2.z4,b2.Nu,_,rfl,?_⟩;generalize aM wk a 0 (.int .i64 x.lv) (.bool x.b) (.slice x.a x.n x.p) (.slice x.ka x.kn x.kp)=W1 at*;have k2:Kp (M9 M' (some a) (some b)) W1 (aM W1 b 0 (.int .i64 y.lv) (.bool y.b) (.slice y.a y.n y.p) (.slice y.ka y.kn y.kp)):=Kp.aM (.inr (.inr rfl)) _ _ _ _ _;exact⟨e1.aM hw' _ _ _ _ _,⟨b1.of_heap (iI _ _ _ _ _ _ _ _ (λe=>hne e.symm)),gY.kp k2⟩,⟨Ka b2 y,jh.kp k2⟩,wR.size k2.1,hw,hw',hne⟩
theorem S9.qeb{M':Nat->Prop}{wd wk:World}{B:Option Nat}(h:S9 M' wd wk none B):∃v g,wk.alloc (.cells zA 33)=v/\wk.heap.size=g/\S9 M' wd v (some g) B/\∀(x:PE)(l:List Tm),aN (M9 M' none B) wk 4 x l->aN (M9 M' (some g) B) v 4 x l:=⟨_,_,rfl,rfl,h.ve,λ_ _ k=>h.mK k⟩
theorem S9.qec{M':Nat->Prop}{wd wk:World}{A:Option Nat}(h:S9 M' wd wk A none):∃v g,wk.alloc (.cells zA 33)=v/\wk.heap.size=g/\S9 M' wd v A (some g)/\∀(x:PE)(l:List Tm),aN (M9 M' A none) wk 4 x l->aN (M9 M' A (some g)) v 4 x l:=⟨_,_,rfl,rfl,h.qs3,λ_ _ k=>h.qyG k⟩
theorem S9.swap{M':Nat->Prop}{wd wk:World}{A B:Option Nat}(h:S9 M' wd wk A B):S9 M' wd wk B A:=⟨h.e,h.m,h.b,h.a,λg hb ha=>h.ne g ha hb⟩
theorem aN.qBP{M':Nat->Prop}{w:World}{A B:Option Nat}{x:PE}{l:List Tm}(h:aN (M9 M' A B) w 4 x l):aN (M9 M' B A) w 4 x l:=h.more λg hg=>.inl (hg.elim .inl λk=>.inr k.symm)
def qri(M':Nat->Prop)(y:PE)(l r:List Tm)(wd:World)(Tw s14:Value)(wx:World):Prop:=∃(a b:Nat)(z:PE),Tw=.pointer (some ⟨a,0,none⟩)/\s14=.pointer (some ⟨b,0,none⟩)/\qio M' wd wx a b y z l r
def O5(M:Nat->Prop)(w:World)(J n gt g12 g13 g14:Nat)(F:Nat->List Tm)(wr:World)(k:Nat):Prop:=∃(MW:Nat->Prop)(a b s:List Tm)(L:Nat->List Tm)(za zb zs:PE),mY M w n gt g12 g13 g14 MW wr a b s L za zb zs/\O6 J n F k a b s L
def J6(a b c:Nat)(x y z:PE)(w:World):Prop:=P4 w a x/\P4 w b y/\P4 w c z
theorem J6.ext{a b c:Nat}{x y z:PE}{w w':World}(h:J6 a b c x y z w)(he:Ext w w'):J6 a b c x y z w':=⟨h.1.ext he,h.2.1.ext he,h.2.2.ext he⟩
def YZ(M:Nat->Prop)(w:World)(n gt g12 g13 g14 g17:Nat)(a b s c:List Tm)(L:Nat->List Tm)(za zb zs:PE)(wx:World):Prop:=∃(MW:Nat->Prop)(zc:PE),mY M w n gt g12 g13 g14 MW wx a b s L za zb zs/\oO MW wx g17 zc c/\MW g17
theorem qBC(M:Nat->Prop)(x y:PE)(J m n fuel:Nat)(a b l s r:List Tm)(F:Nat->List Tm)(w:World)(hM:Mb M w)(hn:1<=n)(iP:n<=m)(hm:m<=100)
 (hx:aN M w 4 x a) (hy:aN M w 4 y b) (ld:JW J b l) (pw:MH l (m-n) s) (rm:J3 J a b r) (run:O6 J n F fuel b r s (λ_=>[])):
 Calls Tryz.prog 164 #[.agg (ak x),.agg (ak y),.int .i64 (J:Int),.int .i64 (m:Int),.int .i64 (n:Int)] w (J2 M w n F):=by
 obtain⟨i0,hi,hz0,hz1,hz2⟩:=info_parts Tryz.zH;have hE:=((aA w).alloc (.cells (ak x) 33)).alloc (.cells (ak y) 33);have kM:=XY w x y
 have jT:((w.alloc (.cells (ak x) 33)).alloc (.cells (ak y) 33)).heap.size=w.heap.size+2:=by simp
 generalize hW:(w.alloc (.cells (ak x) 33)).alloc (.cells (ak y) 33)=W at*;have HW:=ae hW;have HE:=ae hE;have qV:=ae kM;have HSZ:=ae jT;have HM:=ae hM;have HX:=ae hx;have HY:=ae hy;have HLD:=ae ld;have HPW:=ae pw;have HRM:=ae rm;have qag:=ae run;have Co:Hid (1<=n/\n<=m/\m<=100):=⟨hn,iP,hm⟩
 have Oc:(n:Int)<=100:=by omega
 have jg:(0:Int)<=(n:Int):=iw _;clear hE kM hW jT hM hx hy ld pw rm run hn iP hm
 go_enter Tryz.func164,Tryz.ntmps164
 go_upto_region 1 with(fail)
 rw[HW.out]
 go_wp2_with (first|(at_make;refine LK _ rfl _ _ _ rfl 33 i0 (.agg #[.int .i64 0,.bool false,.slice none 0 0,.slice none 0 0]) 4 Tryz.underlying31 hi hz0 hz1 .i64 .i64 _ _ n rfl rfl ?c4 ?c5 ?c2 ?c3 ?_))
 case c2=>rw[hz2];omega
 case c3=>unfold maxLen;omega
 case c4=>first|rfl|simp
 case c5=>first|rfl|simp
 have cO:=Ql W n 33;have az:=(aA W).alloc (.cells (madeCells (Value.agg #[.int .i64 0,.bool false,.slice none 0 0,.slice none 0 0]).cells (n*4)) 33);intro w1 hw1;replace hw1:W.alloc (.cells (madeCells (Value.agg #[.int .i64 0,.bool false,.slice none 0 0,.slice none 0 0]).cells (n*4)) 33)=w1:=hw1.out.symm;rw[hw1]at cO az;obtain⟨gt,kR⟩:∃gt,gt=W.heap.size:=⟨_,rfl⟩;obtain⟨g0,vK⟩:∃g0,g0=w.heap.size:=⟨_,rfl⟩;rw[<-kR]at cO⊢;rw[<-vK]at qV⊢;have Gi:Hid (gt=w.heap.size+2):=kR.trans HSZ.out;have kH:Hid (Mb (λb=>M b\/b=gt) w1):=pz (HM.out.ext (HE.out.trans az)) cO.lt;have Mm:Hid (Kids (λb=>M b\/b=gt) w1 4 gt n (λ_=>[])):=Kids.fresh cO;have aS:Hid (Ext w w1):=HE.out.trans az
 have uE:∀b,(M b\/b=gt)->M b\/w.heap.size<=b:=λb hb=>hb.imp id λh=>by have:=Gi.out;omega
 have lH:Hid (aN (λb=>M b\/b=gt) w1 4 x a):=(HX.out.more uE).ext aS.out;have rJ:Hid (aN (λb=>M b\/b=gt) w1 4 y b):=(HY.out.more uE).ext aS.out;obtain⟨⟨x0,x1,x2,x3⟩,y0,y1,y2,y3⟩:P4 w1 g0 x/\P4 w1 (g0+1) y:=⟨qV.out.1.ext az,qV.out.2.ext az⟩;have Mv:Hid (P4 w1 g0 x/\P4 w1 (g0+1) y):=⟨qV.out.1.ext az,qV.out.2.ext az⟩;clear cO az hw1 kR vK qV HSZ HM HE HW hi hz0 hz1 hz2 HX HY uE
 have RJ:IntKind.i64.wrap ((m:Int)-(n:Int))=((m-n:Nat):Int):=by
  have h:=Co.out;rw[IntWalk.i64_in _ (by omega)];omega
 go_wp2_with (fail);refine(HLD.out _ w1 y kH.out rJ.out).mono ?_;rintro e w2 ⟨u,rfl,hu,e2⟩;have aZ:=ae e2;have HU:=ae hu;obtain⟨⟨x0,x1,x2,x3⟩,y0,y1,y2,y3⟩:P4 w2 g0 x/\P4 w2 (g0+1) y:=⟨Mv.out.1.ext e2,Mv.out.2.ext e2⟩;clear hu e2;go_wp2_with (fail)
 try rw[RJ]
 refine(HPW.out _ w2 u (kH.out.ext aZ.out) HU.out).mono ?_;rintro e w3 ⟨v,rfl,hv,e3⟩;have jl:=(aA w3).alloc (.cells (ak v) 33);have dM:=ae ((aZ.out.trans e3).trans jl);have V9:aG (w3.alloc (.cells (ak v) 33)) w3.heap.size 33 4 (arr (ak v)):=aG.bq w3 (ak v) 33 4 rfl
 have uE:∀q,((M q\/q=gt)\/q=w3.heap.size)->(M q\/q=gt)\/w3.heap.size<=q:=λq hq=>hq.imp id λh=>by omega
 have hV:aN (λq=>(M q\/q=gt)\/q=w3.heap.size) (w3.alloc (.cells (ak v) 33)) 4 v s:=(hv.more uE).ext jl;have hm4:Mb (λq=>(M q\/q=gt)\/q=w3.heap.size) (w3.alloc (.cells (ak v) 33)):=pz (kH.out.ext ((aZ.out.trans e3).trans jl)) V9.lt;have sj:w1.heap.size<=w3.heap.size:=(aZ.out.trans e3).size;generalize gG:w3.alloc (.cells (ak v) 33)=w4 at*;have CV:=ae gG;obtain⟨g12,qcS⟩:∃g12,g12=w3.heap.size:=⟨_,rfl⟩;rw[<-qcS]at V9 uE hV hm4 sj;have qgs:=ae qcS;have ED:Hid (oO (λq=>(M q\/q=gt)\/q=g12) w4 g12 v s):=⟨V9,hV⟩;have wF:=ae hm4;have wB:Hid (w.heap.size<=g12/\gt≠g12):=⟨by have:=aS.out.size;omega,by have:=Mm.out.lt;omega⟩
 have Xa:∀q,((M q\/q=gt)\/q=g12)->(M q\/q=gt)\/w1.heap.size<=q:=λq hq=>hq.imp id λh=>by omega
 have EH:Hid (Kids (λq=>(M q\/q=gt)\/q=g12) w4 4 gt n (λ_=>[])):=(Mm.out.more Xa).ext dM.out;have yG:Hid (aN (λq=>(M q\/q=gt)\/q=g12) w4 4 x a):=(lH.out.more Xa).ext dM.out;have CX:Hid (aN (λq=>(M q\/q=gt)\/q=g12) w4 4 y b):=(rJ.out.more Xa).ext dM.out;have eX:Hid (Ext w w4):=aS.out.trans dM.out;obtain⟨⟨x0,x1,x2,x3⟩,y0,y1,y2,y3⟩:P4 w4 g0 x/\P4 w4 (g0+1) y:=⟨Mv.out.1.ext dM.out,Mv.out.2.ext dM.out⟩;have qai:Hid (uo g0 x y w4):=uo.ext Mv.out dM.out;obtain⟨M',kN⟩:∃M':Nat->Prop,M'=λq=>(M q\/q=gt)\/q=g12:=⟨_,rfl⟩;rw[<-kN]at ED wF EH yG CX
 have Md:Hid (M' gt/\M' g12/\(∀q,M q->M' q)/\∀q,M' q->M q\/w.heap.size<=q):=by
  rw[kN];exact⟨.inl (.inr rfl),.inr rfl,λq hq=>.inl (.inl hq),λq hq=>hq.elim (λh=>h.imp id λe=>by have:=Gi.out;omega) λe=>.inr (by have:=wB.out.1;omega)⟩
 clear hv e3 HU aZ RJ gG jl qcS V9 hV hm4 uE Xa kN Mv kH Mm lH rJ aS dM sj HLD HPW;have HD:Hid (Ext w w4.drew):=eX.out.trans (aA _).drew;have jO:Hid (Ext w4 w4.drew):=(aA _).drew;clear x0 x1 x2 x3 y0 y1 y2 y3
 go_upto_region 3 with(fail)
 rw[CV.out, <-qgs.out];clear CV qgs;generalize Xt:w4.drew=wD at*
 go_cut [13,14] (qri M' y b r wD)
 case first=>
  have Cm:Hid (Mb M' wD):=wF.out.ext jO.out;have xz:Hid (uo g0 x y wD):=qai.out.ext jO.out;have mE:Hid (aN M' wD 4 x a):=yG.out.ext jO.out;have EK:Hid (aN M' wD 4 y b):=CX.out.ext jO.out;have C1:Hid (∀A B W',S9 M' wD W' A B->Calls Tryz.prog 195 #[.agg (ak x),.agg (ak y),.int .i64 (J:Int)] W' (dO (M9 M' A B) W' 4 r)):=λA B W' h=>HRM.out (M9 M' A B) W' x y h.mb ((mE.out.more h.sub).ext h.e) ((EK.out.more h.sub).ext h.e);have S0:=S9.start Cm.out;refine gB (uo g0 x y) 9 (by kernel_rfl) (by rw[Xt];exact xz.out) (λhHeld=>?_);rw[Xt]at hHeld⊢;clear xz jO eX HD Xt Cm yG CX qai EH ED wF qag Md mE Gi wB HRM;generalize wD=wd at*;(refine cB [0,1,2,3] ?_;(iterate 4 (refine bZ (v:=?_) ?_ ?_;rotate_left 1;(intro wS hSw;obtain⟨⟨A0,A1,A2,A3⟩,B0,B1,B2,B3⟩:=hSw;go_simp;try with_reducible rfl);(try simp only[Act.put,aB,aC,aD])));refine cK ?_);have SX:=S0;clear S0;(refine qCF 4 5 6 (oi:=?_) (oj:=?_) (ok:=?_) (by kernel_rfl) ?_ ?_ ?_ ?_ ?_ ?_;rotate_left 3;(simp only[fC,fD,fE];rfl);(simp only[fC,fD,fE];rfl);(simp only[fC,fD,fE];rfl);all_goals intro K hK)
  all_goals(first|(go_simp;refine(C1.out _ _ _ SX).mono ?_;rintro e v ⟨z,rfl,hz,D⟩;go_wp2_with (fail);replace SX:=SX.call D;clear D;(try clear ag);have ag:=hHeld.ext SX.e;refine hK.out _ _ (λ_=>ag) ?_;clear hK K;(try simp only[Act.put,aB,aC,aD]))|(go_simp;(first|obtain⟨v,g,hv,hg,SX,bD⟩:=SX.qeb|obtain⟨v,g,hv,hg,SX,bD⟩:=SX.qec);(try replace hz:=bD _ _ hz);rw[hv,hg];clear hv hg bD;(try clear ag);have ag:=hHeld.ext SX.e;refine hK.out _ _ (λ_=>ag) ?_;clear hK K;(try simp only[Act.put,aB,aC,aD])))
  focus(refine pI 5 6 (oi:=?_) (oj:=?_) (by kernel_rfl) ?_ ?_ ?_ ?_;rotate_left 2;(simp only[fC,fD,fE];rfl);(simp only[fC,fD,fE];rfl);all_goals intro K hK)
  rotate_left 2
  focus(refine pI 4 6 (oi:=?_) (oj:=?_) (by kernel_rfl) ?_ ?_ ?_ ?_;rotate_left 2;(simp only[fC,fD,fE];rfl);(simp only[fC,fD,fE];rfl);all_goals intro K hK)
  rotate_left 2
  focus(refine pI 4 5 (oi:=?_) (oj:=?_) (by kernel_rfl) ?_ ?_ ?_ ?_;rotate_left 2;(simp only[fC,fD,fE];rfl);(simp only[fC,fD,fE];rfl);all_goals intro K hK)
  all_goals(first|(go_simp;refine(C1.out _ _ _ SX).mono ?_;rintro e v ⟨z,rfl,hz,D⟩;go_wp2_with (fail);replace SX:=SX.call D;clear D;(try clear ag);have ag:=hHeld.ext SX.e;refine hK.out _ _ (λ_=>ag) ?_;clear hK K;(try simp only[Act.put,aB,aC,aD]))|(go_simp;(first|obtain⟨v,g,hv,hg,SX,bD⟩:=SX.qeb|obtain⟨v,g,hv,hg,SX,bD⟩:=SX.qec);(try replace hz:=bD _ _ hz);rw[hv,hg];clear hv hg bD;(try clear ag);have ag:=hHeld.ext SX.e;refine hK.out _ _ (λ_=>ag) ?_;clear hK K;(try simp only[Act.put,aB,aC,aD])))
  focus(refine aO 5 ?_;intro K hK)
  rotate_left
  focus(refine aO 4 ?_;intro K hK)
  rotate_left
  focus(refine aO 6 ?_;intro K hK)
  rotate_left
  focus(refine aO 5 ?_;intro K hK)
  rotate_left
  focus(refine aO 6 ?_;intro K hK)
  rotate_left
  focus(refine aO 4 ?_;intro K hK)
  all_goals(first|(go_simp;refine(C1.out _ _ _ SX).mono ?_;rintro e v ⟨z,rfl,hz,D⟩;go_wp2_with (fail);replace SX:=SX.call D;clear D;(try clear ag);have ag:=hHeld.ext SX.e;refine hK.out _ _ (λ_=>ag) ?_;clear hK K;(try simp only[Act.put,aB,aC,aD]))|(go_simp;(first|obtain⟨v,g,hv,hg,SX,bD⟩:=SX.qeb|obtain⟨v,g,hv,hg,SX,bD⟩:=SX.qec);(try replace hz:=bD _ _ hz);rw[hv,hg];clear hv hg bD;(try clear ag);have ag:=hHeld.ext SX.e;refine hK.out _ _ (λ_=>ag) ?_;clear hK K;(try simp only[Act.put,aB,aC,aD])))
  all_goals(first|(obtain⟨W1,hW1,⟨q0,q1,q2,q3⟩,⟨f0,f1,f2,f3⟩,E1,⟨r0,r1,r2,r3⟩,⟨k0,k1,k2,k3⟩,W2,jW,eD⟩:=SX.qpC EK.out hz;unfold aM at hW1 jW;have je:=hHeld.ext E1;have Dz:=hHeld.ext eD.e;clear ag;(refine aO 7 ?_;intro K hK);go_simp;rw[<-hW1];clear hW1;refine hK.out _ _ (λ_=>je) ?_;clear hK K q0 q1 q2 q3 f0 f1 f2 f3;(try simp only[Act.put,aB,aC,aD]);(refine aO 8 ?_;intro K hK);go_simp;rw[<-jW];clear jW;refine hK.out _ _ (λ_=>Dz) ?_;clear hK K r0 r1 r2 r3 k0 k1 k2 k3;(try simp only[Act.put,aB,aC,aD]);refine dX ?_;go_wp2_with (fail);go_meet;exact⟨_,_,z,rfl,rfl,eD⟩)|(obtain⟨W1,hW1,⟨q0,q1,q2,q3⟩,⟨f0,f1,f2,f3⟩,E1,⟨r0,r1,r2,r3⟩,⟨k0,k1,k2,k3⟩,W2,jW,eD⟩:=SX.swap.qpC EK.out hz.qBP;unfold aM at hW1 jW;have je:=hHeld.ext E1;have Dz:=hHeld.ext eD.e;clear ag;(refine aO 7 ?_;intro K hK);go_simp;rw[<-hW1];clear hW1;refine hK.out _ _ (λ_=>je) ?_;clear hK K q0 q1 q2 q3 f0 f1 f2 f3;(try simp only[Act.put,aB,aC,aD]);(refine aO 8 ?_;intro K hK);go_simp;rw[<-jW];clear jW;refine hK.out _ _ (λ_=>Dz) ?_;clear hK K r0 r1 r2 r3 k0 k1 k2 k3;(try simp only[Act.put,aB,aC,aD]);refine dX ?_;go_wp2_with (fail);go_meet;exact⟨_,_,z,rfl,rfl,eD⟩))
 case rest=>
  obtain⟨g13,g14,zz,rfl,rfl,rZ⟩:=hcut;have Jy:Hid (Ext w4 wc):=jO.out.trans rZ.e
  have fA:∀q,q<w4.heap.size->q≠g13/\q≠g14:=λq hq=>by
   have h1:=jO.out.size;have h2:=rZ.la;have h3:=rZ.lb;constructor<;>omega
  have oW:Hid (O9 w gt g12 g13 g14):=⟨⟨wB.out.2,(fA gt EH.out.lt).1,(fA gt EH.out.lt).2,(fA g12 ED.out.lt).1,(fA g12 ED.out.lt).2,λe=>rZ.ne e.symm⟩,by have:=Gi.out;omega,wB.out.1,aR HD.out.size rZ.la,aR HD.out.size rZ.lb⟩
  have uE:∀q,M9 M' (some g13) (some g14) q->M' q\/w4.heap.size<=q:=λq hq=>hq.imp id λh=>by
   have h1:=jO.out.size;have h2:=rZ.la;have h3:=rZ.lb;rcases h with h|h<;>cases h<;>omega
  have qhl:Hid (∃k,O5 M w J n gt g12 g13 g14 F wc k):=⟨fuel,M9 M' (some g13) (some g14),b,r,s,λ_=>[],y,zz,v,⟨rZ.A,rZ.B,(ED.out.more uE).ext Jy.out,(EH.out.more uE).ext Jy.out,rZ.m,eX.out.trans Jy.out,λq hq=>.inl (Md.out.2.2.1 q hq),λq hq=>(uE q hq).elim (Md.out.2.2.2 q) λh=>.inr (aR eX.out.size h),.inl Md.out.1,.inl Md.out.2.1,.inr (.inl rfl),.inr (.inr rfl)⟩,qag.out⟩;clear rZ fA uE Jy HD jO eX yG CX qai EH ED wF qag Md Gi wB HRM Xt;go_wp2
  go_loopw [15] (λ_ wr=>∃k,O5 M w J n gt g12 g13 g14 F wr k) (λ_ wr=>XO (O5 M w J n gt g12 g13 g14 F wr))
  case atStart=>exact qhl.out
  case round=>
   clear qhl;obtain⟨k0,iO⟩:=hrel;have j5:=(qoe iO).1;obtain⟨kk,N7⟩:∃kk,kk=XO (O5 M w J n gt g12 g13 g14 F wr):=⟨_,rfl⟩;rw[<-N7]at j5;have Ah:=ae N7;clear iO N7
   cases kk with
   |zero=>
    obtain⟨_,_,_,_,_,_,_,_,_,h⟩:=j5;exact h.elim
   |succ k=>
    obtain⟨MW,a,b,s,L,za,zb,zs,jG,d,DK,hd1,tK,hcs⟩:=j5
    obtain⟨z,hdb,hz⟩:∃z:Int,O7 J b z/\((z= -1/\∀i,i<n->af (L i) (F i))\/∃(dn e:Nat)(c:List Tm)(L':Nat->List Tm),z=(e:Int)/\d=(dn:Int)/\e<dn/\dn<=n/\YT J b s (dn-e) e (Ei L (dn-1) b) L' c/\
     ((e=0/\∀i,i<n->af (L' i) (F i))\/(0<e/\∃s1 la dv r b' s',MH s (dn-e) s1/\JW J a la/\Vg s1 la dv/\J3 J a b r/\Vi r dv b'/\JW J c s'/\O6 J n F k c b' s' L'))):=by
     rcases hcs with⟨h1,h2⟩|⟨dn,e,c,L',h1,h2,h3⟩
     ·exact⟨-1,h1,.inl ⟨rfl,h2⟩⟩
     ·exact⟨(e:Int),h2,.inr ⟨dn,e,c,L',rfl,h1,h3⟩⟩
    have qA:=ae jG;have HZ:=ae hz;have wy:Hid (-1<=d/\d<=1000):=⟨hd1,tK⟩;have qx:Hid (uZ g13 g14 za zb wr.drew):=uZ.ext ⟨jG.A.b.p4,jG.B.b.p4⟩ (aA _).drew;have C2:Hid (∀wk,Ext wr.drew wk->Calls Tryz.prog 43 #[.agg (ak za),.int .i64 (J:Int)] wk λe w'=>e=.returned (.int .i64 d)/\Ext wk w'):=λwk he=>DK MW wk za (jG.m.ext ((aA _).drew.trans he)) (jG.A.x.ext ((aA _).drew.trans he));have C5:Hid (∀wk,Ext wr.drew wk->Calls Tryz.prog 43 #[.agg (ak zb),.int .i64 (J:Int)] wk λe w'=>e=.returned (.int .i64 z)/\Ext wk w'):=λwk he=>hdb MW wk zb (jG.m.ext ((aA _).drew.trans he)) (jG.B.x.ext ((aA _).drew.trans he));have mZ:Hid (Ext wr wr.drew):=(aA _).drew;clear jG hz hd1 tK hcs DK hdb
    go_upto_region 4 with(fail)
    refine gB (uZ g13 g14 za zb) 8 (by kernel_rfl) qx.out (λhHeld=>?_);obtain⟨wo,IG⟩:∃wo,wo=wr:=⟨_,rfl⟩;generalize wr.drew=wd at*;(refine cB [0,1,3,4] ?_;(iterate 4 (refine bZ (v:=?_) ?_ ?_;rotate_left 1;(intro wS hSw;obtain⟨⟨A0,A1,A2,A3⟩,B0,B1,B2,B3⟩:=hSw;go_simp;try with_reducible rfl);(try simp only[Act.put,aB,aC,aD])));refine cK ?_);((refine aO 2 ?_;intro K hK);go_simp;(refine(C2.out wd (aA _)).mono ?_);rintro e_ w5 ⟨rfl,e2⟩;go_wp2_with (fail);(try clear ag);(have ag:=hHeld.ext e2);(refine hK.out _ _ (λ_=>ag) ?_);clear hK K;(try simp only[Act.put,aB,aC,aD]));((refine aO 5 ?_;intro K hK);go_simp;(refine(C5.out w5 e2).mono ?_);rintro e_ w6 ⟨rfl,e5⟩;go_wp2_with (fail);(try clear ag);(have ag:=hHeld.ext (e2.trans e5));(refine hK.out _ _ (λ_=>ag) ?_);clear hK K;(try simp only[Act.put,aB,aC,aD]));(refine cB [6,7] ?_;(iterate 2 (refine bZ (v:=?_) ?_ ?_;rotate_left 1;(intro wS hSw;obtain⟨⟨A0,A1,A2,A3⟩,B0,B1,B2,B3⟩:=hSw;go_simp;try with_reducible rfl);(try simp only[Act.put,aB,aC,aD])));refine cK ?_);refine dX ?_;have JK:=ae (qA.out.ext (mZ.out.trans (e2.trans e5)));clear hHeld ag e2 e5 qx C2 C5 mZ qA IG;rcases HZ.out with⟨rfl,hF⟩|⟨dn,e,c,L',rfl,rfl,kz,ou,xR,qcP⟩
    ·have HF:Hid (J2 M w n F (.returned (.slice (some ⟨gt,0,none⟩) n n)) w6):=JK.out.ret oW.out.2.1 hF;clear hF JK HZ wy Ah oW Co;go_wp2;go_ret;exact HF.out
    ·obtain⟨D,hD⟩:∃D,dn=D+1:=⟨dn-1,by omega⟩;have Ul:Hid (D<n/\dn=D+1):=⟨by omega,hD⟩
     have hDn:(D:Int)<(n:Int):=by omega
     have vE:(0:Int)<=(D:Int):=iw _;have p8:(0:Int)<=(e:Int):=iw _
     have hwr:IntKind.i64.wrap ((dn:Int)-1)=(D:Int):=by rw[IntWalk.i64_in _ (by omega)];omega
     obtain⟨G,hG⟩:∃G,G=dn-e:=⟨_,rfl⟩
     have Sc:IntKind.i64.wrap ((dn:Int)-(e:Int))=(G:Int):=by rw[IntWalk.i64_in _ (by omega)];omega
     have pJ:Hid (1<=G/\G<=100/\e<n):=⟨by omega,by omega,by omega⟩;rw[<-hG]at xR qcP
     have AY:dn-1=D:=by omega
     rw[AY]at xR;have Ug:=ae xR;have Ps:=ae qcP;clear xR qcP hG AY kz ou hD HZ wy;obtain⟨⟨_,q0⟩,⟨_,q1⟩,⟨_,q2⟩,⟨_,q3⟩,eT,_⟩:=JK.out.L.at D Ul.out.1;have f0:=eT (D*4);have f1:=eT (D*4+1);have f2:=eT (D*4+2);have f3:=eT (D*4+3);have qdK:=JK.out.list oW.out Ul.out.1 JK.out.B.x;obtain⟨W7,Wv⟩:∃W7,W7=aM w6 gt (D*4) (.int .i64 zb.lv) (.bool zb.b) (.slice zb.a zb.n zb.p) (.slice zb.ka zb.kn zb.kp):=⟨_,rfl⟩;rw[<-Wv]at qdK;unfold aM at Wv;have HW7:=ae Wv;have EE:=ae qdK;clear qdK Wv eT;obtain⟨B0,B1,B2,B3⟩:=JK.out.B.b.p4;clear JK
     go_upto_region 8 with(fail)
     try rw[<-HW7.out]
     clear HW7 q0 q1 q2 q3 f0 f1 f2 f3 B0 B1 B2 B3;obtain⟨b0,b1,b2,b3⟩:=EE.out.B.b.p4;have jl:=(aA W7).alloc (.cells (ak zb) 33);have QR:aG (W7.alloc (.cells (ak zb) 33)) W7.heap.size 33 4 (arr (ak zb)):=aG.bq W7 (ak zb) 33 4 rfl;obtain⟨W8,Fs⟩:∃W8,W8=W7.alloc (.cells #[.int .i64 zb.lv,.bool zb.b,.slice zb.a zb.n zb.p,.slice zb.ka zb.kn zb.kp] 33):=⟨_,rfl⟩;have hWP:W7.alloc (.cells (ak zb) 33)=W8:=Fs.symm;rw[hWP]at jl QR;have qdL:=EE.out.more jl (g:=W7.heap.size) (aI _) QR.lt;have hx8:aN (λq=>MW q\/q=W7.heap.size) W8 4 zb b:=(EE.out.B.x.more λq hq=>hq.imp id λh=>by omega).ext jl;have sP:Hid (W7.heap.size≠gt/\W7.heap.size≠g12/\W7.heap.size≠g13/\W7.heap.size≠g14/\w.heap.size<=W7.heap.size):=⟨by have:=EE.out.L.lt;omega,by have:=EE.out.S.lt;omega,by have:=EE.out.A.lt;omega,by have:=EE.out.B.lt;omega,EE.out.e.size⟩;have P9:=ae Fs;obtain⟨g17,qcT⟩:∃g17,g17=W7.heap.size:=⟨_,rfl⟩;rw[<-qcT]at qdL hx8 QR sP;have qgt:=ae qcT;have EG:=ae qdL;have Ju:Hid (oO (λq=>MW q\/q=g17) W8 g17 zb b):=⟨QR,hx8⟩;have kY:Hid ((λq=>MW q\/q=g17) g17):=.inr rfl;obtain⟨MX,hMX⟩:∃MX:Nat->Prop,MX=λq=>MW q\/q=g17:=⟨_,rfl⟩;rw[<-hMX]at EG Ju kY;clear Fs qcT qdL hx8 QR jl hWP hMX EE
     go_upto_if 53 with(fail)
     rw[<-P9.out, <-qgt.out];clear P9 qgt b0 b1 b2 b3
     go_cut [17] (λs17 wx=>s17=.pointer (some ⟨g17,0,none⟩)/\YZ M w n gt g12 g13 g14 g17 a b s c L' za zb zs wx)
     case first=>
      rcases Ug.out with⟨qG,rfl,rfl⟩|⟨qG,rfl,lb,p,c0,qq,pg,hp,jY,hqq,hqo⟩
      ·have Ba:¬1<(G:Int):=by omega
       have HF:Hid (YZ M w n gt g12 g13 g14 g17 a c s c (Ei L D c) za zb zs W8):=⟨MX,zb,EG.out,Ju.out,kY.out⟩;clear Ug Ps EG Ju kY Ah sP oW Co qG;go_wp2
       go_meet
       exact⟨rfl,HF.out⟩
      ·have Ba:1<(G:Int):=by omega
       have qFe:IntKind.i64.wrap ((G:Int)-1)=((G-1:Nat):Int):=by have:=pJ.out;rw[IntWalk.i64_in _ (by omega)];omega
       have HLB:=ae pg;have HP:=ae hp;have qh:=ae jY;have HQQ:=ae hqq;have HQO:=ae hqo;clear pg hp jY hqq hqo qG Ug
       go_upto_region 10 with(fail)
       have mZ:Hid (Ext W8 W8.drew):=(aA _).drew;have qx:Hid (uZ g14 g17 zb zb W8.drew):=uZ.ext ⟨EG.out.B.b.p4,Ju.out.b.p4⟩ (aA _).drew;have Gp:=ae EG.out.m;have Mt:=ae EG.out.B.x;have C2:Hid (∀wk,Ext W8.drew wk->Calls Tryz.prog 117 #[.agg (ak zb),.int .i64 (J:Int)] wk (dO MX wk 4 lb)):=λwk he=>HLB.out MX wk zb (Gp.out.ext ((aA _).drew.trans he)) (Mt.out.ext ((aA _).drew.trans he));have C5:Hid (∀wk u,Ext W8.drew wk->aN MX wk 4 u lb->Calls Tryz.prog 53 #[.agg (ak u),.int .i64 ((G-1:Nat):Int)] wk (dO MX wk 4 p)):=λwk u he hu=>HP.out MX wk u (Gp.out.ext ((aA _).drew.trans he)) hu;have C7:Hid (∀wk u,Ext W8.drew wk->aN MX wk 4 u p->Calls Tryz.prog 55 #[.agg (ak u),.agg (ak zb)] wk (dO MX wk 4 c0)):=λwk u he hu=>qh.out MX wk u zb (Gp.out.ext ((aA _).drew.trans he)) hu (Mt.out.ext ((aA _).drew.trans he));refine gB (uZ g14 g17 zb zb) 8 (by kernel_rfl) qx.out (λhHeld=>?_);generalize W8.drew=wd at*;(refine cB [0,1,3,4,6] ?_;(iterate 5 (refine bZ (v:=?_) ?_ ?_;rotate_left 1;(intro wS hSw;obtain⟨⟨A0,A1,A2,A3⟩,B0,B1,B2,B3⟩:=hSw;go_simp;try with_reducible rfl);(try simp only[Act.put,aB,aC,aD])));refine cK ?_);((refine aO 2 ?_;intro K hK);go_simp;(refine(C2.out wd (aA _)).mono ?_);rintro e_ w9 ⟨u,rfl,hu,e2⟩;go_wp2_with (fail);(try clear ag);(have ag:=hHeld.ext e2);(refine hK.out _ _ (λ_=>ag) ?_);clear hK K;(try simp only[Act.put,aB,aC,aD]))
       ((refine aO 5 ?_;intro K hK);go_simp;(refine(C5.out w9 u e2 hu).mono ?_);rintro e_ iT ⟨v2,rfl,hv2,e5⟩;go_wp2_with (fail);(try clear ag);(have ag:=hHeld.ext (e2.trans e5));(refine hK.out _ _ (λ_=>ag) ?_);clear hK K;(try simp only[Act.put,aB,aC,aD]));((refine aO 7 ?_;intro K hK);go_simp;(refine(C7.out iT v2 (e2.trans e5) hv2).mono ?_);rintro e_ vW ⟨v3,rfl,IA,e7⟩;go_wp2_with (fail);(try clear ag);(have ag:=hHeld.ext ((e2.trans e5).trans e7));(refine hK.out _ _ (λ_=>ag) ?_);clear hK K;(try simp only[Act.put,aB,aC,aD]));have yX:=mZ.out.trans ((e2.trans e5).trans e7);have Bw:=EG.out.ext yX;have xO:=Ju.out.ext yX;have zF:=Bw.beside kY.out sP.out v3;have KF:=xO.put kY.out IA;obtain⟨q0,q1,q2,q3⟩:=xO.b.p4;have eT:=xO.b.frozen;have f0:=eT 0;have f1:=eT 1;have f2:=eT 2;have f3:=eT 3;obtain⟨yL,Fp⟩:∃yL,yL=aM vW g17 0 (.int .i64 v3.lv) (.bool v3.b) (.slice v3.a v3.n v3.p) (.slice v3.ka v3.kn v3.kp):=⟨_,rfl⟩;rw[<-Fp]at zF KF;unfold aM at Fp;have P6:=ae Fp;have Cx:=ae zF;have Ua:=ae KF;clear yX Bw xO zF KF Fp eT hu hv2 IA e2 e5 e7 C2 C5 C7 qx Mt Gp mZ EG Ju;(refine aO 8 ?_;intro K hK);go_simp;rw[<-P6.out];refine hK.out _ _ (λh=>absurd rfl h) ?_;clear hK K P6 q0 q1 q2 q3 f0 f1 f2 f3 ag;refine dX ?_;clear hHeld;have mZ:Hid (Ext yL yL.drew):=(aA _).drew
       have qx:Hid (uZ g17 g12 v3 zs yL.drew):=uZ.ext ⟨Ua.out.b.p4,Cx.out.S.b.p4⟩ (aA _).drew;have Gp:=ae Cx.out.m;have Ay:=ae Cx.out.S.x;have EJ:=ae Ua.out.x;have C4:Hid (∀wk,Ext yL.drew wk->Calls Tryz.prog 53 #[.agg (ak zs),.int .i64 ((G-1:Nat):Int)] wk (dO MX wk 4 qq)):=λwk he=>HQQ.out MX wk zs (Gp.out.ext ((aA _).drew.trans he)) (Ay.out.ext ((aA _).drew.trans he));have C5:Hid (∀wk u,Ext yL.drew wk->aN MX wk 4 u qq->Calls Tryz.prog 196 #[.agg (ak v3),.agg (ak u)] wk (dO MX wk 4 c)):=λwk u he hu=>HQO.out MX wk v3 u (Gp.out.ext ((aA _).drew.trans he)) (EJ.out.ext ((aA _).drew.trans he)) hu
       go_upto_region 11 with(fail)
       refine gB (uZ g17 g12 v3 zs) 6 (by kernel_rfl) qx.out (λhHeld=>?_);generalize yL.drew=wd at*;(refine cB [0,1,2,3] ?_;(iterate 4 (refine bZ (v:=?_) ?_ ?_;rotate_left 1;(intro wS hSw;obtain⟨⟨A0,A1,A2,A3⟩,B0,B1,B2,B3⟩:=hSw;go_simp;try with_reducible rfl);(try simp only[Act.put,aB,aC,aD])));refine cK ?_);((refine aO 4 ?_;intro K hK);go_simp;(refine(C4.out wd (aA _)).mono ?_);rintro e_ w9 ⟨u,rfl,hu,e2⟩;go_wp2_with (fail);(try clear ag);(have ag:=hHeld.ext e2);(refine hK.out _ _ (λ_=>ag) ?_);clear hK K;(try simp only[Act.put,aB,aC,aD]));((refine aO 5 ?_;intro K hK);go_simp;(refine(C5.out w9 u e2 hu).mono ?_);rintro e_ iT ⟨v4,rfl,Sa,e5⟩;go_wp2_with (fail);(try clear ag);(have ag:=hHeld.ext (e2.trans e5));(refine hK.out _ _ (λ_=>ag) ?_);clear hK K;(try simp only[Act.put,aB,aC,aD]));have yX:=mZ.out.trans (e2.trans e5);have Bw:=Cx.out.ext yX;have xO:=Ua.out.ext yX;have zF:=Bw.beside kY.out sP.out v4;have KF:=xO.put kY.out Sa;obtain⟨q0,q1,q2,q3⟩:=xO.b.p4;have eT:=xO.b.frozen;have f0:=eT 0;have f1:=eT 1;have f2:=eT 2;have f3:=eT 3;obtain⟨GN,Fq⟩:∃GN,GN=aM iT g17 0 (.int .i64 v4.lv) (.bool v4.b) (.slice v4.a v4.n v4.p) (.slice v4.ka v4.kn v4.kp):=⟨_,rfl⟩;rw[<-Fq]at zF KF;unfold aM at Fq;have P7:=ae Fq;have Cy:=ae zF;have Ub:=ae KF
       clear yX Bw xO zF KF Fq eT hu Sa e2 e5 C4 C5 qx Ay EJ Gp mZ Cx Ua;(refine aO 6 ?_;intro K hK);go_simp;rw[<-P7.out];refine hK.out _ _ (λh=>absurd rfl h) ?_;clear hK K P7 q0 q1 q2 q3 f0 f1 f2 f3 ag;refine dX ?_;clear hHeld
       have xV:(e:Int)<(n:Int):=by have:=pJ.out;omega
       obtain⟨⟨_,q0⟩,⟨_,q1⟩,⟨_,q2⟩,⟨_,q3⟩,eT,_⟩:=Cy.out.L.at e pJ.out.2.2;have f0:=eT (e*4);have f1:=eT (e*4+1);have f2:=eT (e*4+2);have f3:=eT (e*4+3);have Iy:=Cy.out.list oW.out pJ.out.2.2 Ub.out.x;have qmn:=iI GN gt (e*4) (.int .i64 v4.lv) (.bool v4.b) (.slice v4.a v4.n v4.p) (.slice v4.ka v4.kn v4.kp) g17 sP.out.1;have qcC:=Ub.out.other (Kp.aM Cy.out.mt (e*4) (.int .i64 v4.lv) (.bool v4.b) (.slice v4.a v4.n v4.p) (.slice v4.ka v4.kn v4.kp)) qmn;obtain⟨o7,Ht⟩:∃o7,o7=aM GN gt (e*4) (.int .i64 v4.lv) (.bool v4.b) (.slice v4.a v4.n v4.p) (.slice v4.ka v4.kn v4.kp):=⟨_,rfl⟩;rw[<-Ht]at Iy qcC;unfold aM at Ht;have P8:=ae Ht;have HF:Hid (YZ M w n gt g12 g13 g14 g17 a b s c (Ei (Ei L D b) e c) za zb zs o7):=⟨MX,v4,Iy,qcC,kY.out⟩;obtain⟨C0,C1,C2,C3⟩:=Ub.out.b.p4;clear Iy qcC qmn Ht eT Cy Ub Ps Ah sP oW Co kY HLB HP qh HQQ HQO;go_wp2;rw[<-P8.out];clear P8 q0 q1 q2 q3 f0 f1 f2 f3 C0 C1 C2 C3
       go_meet
       exact⟨rfl,HF.out⟩
     case rest=>
      obtain⟨wo,rfl⟩:∃wo,wo=wc:=⟨_,rfl⟩;obtain⟨rfl,MX,zc,qnh,hb9,qmE⟩:=hcut;have yC:=ae qnh;have Ph:=ae hb9;have qgZ:=ae qmE;clear qnh hb9 qmE Ug EG Ju kY;rcases Ps.out with⟨rfl,hF⟩|⟨he,s1,la,dv,r9,b',s',eU,Bp,WC,RV,hb',kC,hrun⟩
      ·have HF:Hid (J2 M w n F (.returned (.slice (some ⟨gt,0,none⟩) n n)) wo):=yC.out.ret oW.out.2.1 hF;clear hF yC Ph Ps Ah oW Co pJ;go_wp2;go_ret;exact HF.out
      ·have uS:=ae eU;have L9:=ae Bp;have og:=ae WC;have HR9:=ae RV;have Zh:=ae hb';have PV:=ae kC;have HRQ:=ae hrun
       have qmS:¬(e:Int)=0:=by omega
       have qES:((e:Int)==0)=false:=beq_eq_false_iff_ne.2 qmS;clear eU Bp WC RV hb' kC hrun Ps he
       go_upto_region 15 with(fail)
       have eP:=ae yC.out.m;have Ms:=ae yC.out.A.x;have Ay:=ae yC.out.S.x;have mZ:Hid (Ext wo wo.drew):=(aA _).drew
       go_cut [19] (qrg MX dv wo.drew)
       case first=>
        have qx:Hid (uZ g12 g13 zs za wo.drew):=uZ.ext ⟨yC.out.S.b.p4,yC.out.A.b.p4⟩ mZ.out;have S0:S9 MX wo.drew wo.drew none none:=S9.start (eP.out.ext mZ.out);have C2:Hid (∀A B W',S9 MX wo.drew W' A B->Calls Tryz.prog 53 #[.agg (ak zs),.int .i64 (G:Int)] W' (dO (M9 MX A B) W' 4 s1)):=λA B W' h=>uS.out (M9 MX A B) W' zs h.mb (((Ay.out.ext mZ.out).more h.sub).ext h.e);have C5:Hid (∀A B W',S9 MX wo.drew W' A B->Calls Tryz.prog 117 #[.agg (ak za),.int .i64 (J:Int)] W' (dO (M9 MX A B) W' 4 la)):=λA B W' h=>L9.out (M9 MX A B) W' za h.mb (((Ms.out.ext mZ.out).more h.sub).ext h.e);have C6:Hid (∀A B W',S9 MX wo.drew W' A B->∀p:PE,aN (M9 MX A B) W' 4 p s1->∀q:PE,aN (M9 MX A B) W' 4 q la->Calls Tryz.prog 55 #[.agg (ak p),.agg (ak q)] W' (dO (M9 MX A B) W' 4 dv)):=λA B W' h p hp q hq=>og.out (M9 MX A B) W' p q h.mb hp hq;refine gB (uZ g12 g13 zs za) 9 (by kernel_rfl) qx.out (λhHeld=>?_);clear yC Ph qgZ eP Ms Ay qx uS L9 og HR9 Zh PV HRQ Ah sP oW Co pJ Ul qmS;generalize wo.drew=wd at*;(refine cB [0,1,3,4] ?_;(iterate 4 (refine bZ (v:=?_) ?_ ?_;rotate_left 1;(intro wS hSw;obtain⟨⟨A0,A1,A2,A3⟩,B0,B1,B2,B3⟩:=hSw;go_simp;try with_reducible rfl);(try simp only[Act.put,aB,aC,aD])));refine cK ?_);(refine pI 2 7 (oi:=?_) (oj:=?_) (by kernel_rfl) ?_ ?_ ?_ ?_;rotate_left 2;(simp only[fC,fD,fE];rfl);(simp only[fC,fD,fE];rfl);all_goals intro K hK)
        ·go_simp;refine(C2.out _ _ wd S0).mono ?_;rintro e v1 ⟨p,rfl,hp,D⟩;go_wp2_with (fail);have S1:=S0.call D;clear D
         try clear ag
         have ag:=hHeld.ext S1.e;refine hK.out _ _ (λ_=>ag) ?_;clear hK K;(try simp only[Act.put,aB,aC,aD]);(refine pI 5 7 (oi:=?_) (oj:=?_) (by kernel_rfl) ?_ ?_ ?_ ?_;rotate_left 2;(simp only[fC,fD,fE];rfl);(simp only[fC,fD,fE];rfl);all_goals intro K hK)
         ·go_simp;refine(C5.out _ _ v1 S1).mono ?_;rintro e v2 ⟨q,rfl,hq,D⟩;go_wp2_with (fail);have S2:=S1.call D;replace hp:=hp.ext D;clear D
          try clear ag
          have ag:=hHeld.ext S2.e;refine hK.out _ _ (λ_=>ag) ?_;clear hK K;(try simp only[Act.put,aB,aC,aD]);(refine pI 6 7 (oi:=?_) (oj:=?_) (by kernel_rfl) ?_ ?_ ?_ ?_;rotate_left 2;(simp only[fC,fD,fE];rfl);(simp only[fC,fD,fE];rfl);all_goals intro K hK)
          ·go_simp;refine(C6.out _ _ v2 S2 _ hp _ hq).mono ?_;rintro e v3 ⟨v,rfl,hv,D⟩;go_wp2_with (fail);have S3:=S2.call D;replace hp:=hp.ext D;replace hq:=hq.ext D;clear D
           try clear ag
           have ag:=hHeld.ext S3.e;refine hK.out _ _ (λ_=>ag) ?_;clear hK K;(try simp only[Act.put,aB,aC,aD]);(refine aO 7 ?_;intro K hK);go_simp;have S4:=S3.ve;replace hp:=S3.mK hp;replace hq:=S3.mK hq;replace hv:=S3.mK hv
           try clear ag
           have ag:=hHeld.ext S4.e;refine hK.out _ _ (λ_=>ag) ?_;clear hK K;(try simp only[Act.put,aB,aC,aD]);generalize v3.alloc (.cells zA 33)=v4 at*;generalize v3.heap.size=g4 at*;obtain⟨W1,hW1,⟨q0,q1,q2,q3⟩,⟨f0,f1,f2,f3⟩,eD⟩:=S4.BQ hv;unfold aM at hW1;have je:=hHeld.ext eD.e;clear ag;(refine aO 8 ?_;intro K hK);go_simp;rw[<-hW1];clear hW1;refine hK.out _ _ (λ_=>je) ?_;clear hK K q0 q1 q2 q3 f0 f1 f2 f3;(try simp only[Act.put,aB,aC,aD]);refine dX ?_;go_wp2_with (fail)
           go_meet
           exact⟨_,_,rfl,eD⟩
          ·go_simp;have S5:=S2.ve;replace hp:=S2.mK hp;replace hq:=S2.mK hq
           try clear ag
           have ag:=hHeld.ext S5.e;refine hK.out _ _ (λ_=>ag) ?_;clear hK K;(try simp only[Act.put,aB,aC,aD]);generalize v2.alloc (.cells zA 33)=v5 at*;generalize v2.heap.size=g5 at*;(refine aO 6 ?_;intro K hK);go_simp;refine(C6.out _ _ v5 S5 _ hp _ hq).mono ?_;rintro e v6 ⟨v,rfl,hv,D⟩;go_wp2_with (fail);have S6:=S5.call D;replace hp:=hp.ext D;replace hq:=hq.ext D;clear D
           try clear ag
           have ag:=hHeld.ext S6.e;refine hK.out _ _ (λ_=>ag) ?_;clear hK K;(try simp only[Act.put,aB,aC,aD]);obtain⟨W1,hW1,⟨q0,q1,q2,q3⟩,⟨f0,f1,f2,f3⟩,eD⟩:=S6.BQ hv;unfold aM at hW1;have je:=hHeld.ext eD.e;clear ag;(refine aO 8 ?_;intro K hK);go_simp;rw[<-hW1];clear hW1;refine hK.out _ _ (λ_=>je) ?_;clear hK K q0 q1 q2 q3 f0 f1 f2 f3;(try simp only[Act.put,aB,aC,aD]);refine dX ?_;go_wp2_with (fail)
           go_meet
           exact⟨_,_,rfl,eD⟩
         ·go_simp;have S7:=S1.ve;replace hp:=S1.mK hp
          try clear ag
          have ag:=hHeld.ext S7.e;refine hK.out _ _ (λ_=>ag) ?_;clear hK K;(try simp only[Act.put,aB,aC,aD]);generalize v1.alloc (.cells zA 33)=v7 at*;generalize v1.heap.size=g7 at*;(refine aO 5 ?_;intro K hK);go_simp;refine(C5.out _ _ v7 S7).mono ?_;rintro e v8 ⟨q,rfl,hq,D⟩;go_wp2_with (fail);have S8:=S7.call D;replace hp:=hp.ext D;clear D
          try clear ag
          have ag:=hHeld.ext S8.e;refine hK.out _ _ (λ_=>ag) ?_;clear hK K;(try simp only[Act.put,aB,aC,aD]);(refine aO 6 ?_;intro K hK);go_simp;refine(C6.out _ _ v8 S8 _ hp _ hq).mono ?_;rintro e v9 ⟨v,rfl,hv,D⟩;go_wp2_with (fail);have S9:=S8.call D;replace hp:=hp.ext D;replace hq:=hq.ext D;clear D
          try clear ag
          have ag:=hHeld.ext S9.e;refine hK.out _ _ (λ_=>ag) ?_;clear hK K;(try simp only[Act.put,aB,aC,aD]);obtain⟨W1,hW1,⟨q0,q1,q2,q3⟩,⟨f0,f1,f2,f3⟩,eD⟩:=S9.BQ hv;unfold aM at hW1;have je:=hHeld.ext eD.e;clear ag;(refine aO 8 ?_;intro K hK);go_simp;rw[<-hW1];clear hW1;refine hK.out _ _ (λ_=>je) ?_;clear hK K q0 q1 q2 q3 f0 f1 f2 f3;(try simp only[Act.put,aB,aC,aD]);refine dX ?_;go_wp2_with (fail)
          go_meet
          exact⟨_,_,rfl,eD⟩
        ·go_simp;have rM:=S0.ve
         try clear ag
         have ag:=hHeld.ext rM.e;refine hK.out _ _ (λ_=>ag) ?_;clear hK K;(try simp only[Act.put,aB,aC,aD]);generalize wd.alloc (.cells zA 33)=v10 at*;generalize wd.heap.size=g10 at*;(refine aO 2 ?_;intro K hK);go_simp;refine(C2.out _ _ v10 rM).mono ?_;rintro e v11 ⟨p,rfl,hp,D⟩;go_wp2_with (fail);have uW:=rM.call D;clear D
         try clear ag
         have ag:=hHeld.ext uW.e;refine hK.out _ _ (λ_=>ag) ?_;clear hK K;(try simp only[Act.put,aB,aC,aD]);(refine aO 5 ?_;intro K hK);go_simp;refine(C5.out _ _ v11 uW).mono ?_;rintro e v12 ⟨q,rfl,hq,D⟩;go_wp2_with (fail);have uX:=uW.call D;replace hp:=hp.ext D;clear D
         try clear ag
         have ag:=hHeld.ext uX.e;refine hK.out _ _ (λ_=>ag) ?_;clear hK K;(try simp only[Act.put,aB,aC,aD]);(refine aO 6 ?_;intro K hK);go_simp;refine(C6.out _ _ v12 uX _ hp _ hq).mono ?_;rintro e Jn ⟨v,rfl,hv,D⟩;go_wp2_with (fail);have AO:=uX.call D;replace hp:=hp.ext D;replace hq:=hq.ext D;clear D
         try clear ag
         have ag:=hHeld.ext AO.e;refine hK.out _ _ (λ_=>ag) ?_;clear hK K;(try simp only[Act.put,aB,aC,aD]);obtain⟨W1,hW1,⟨q0,q1,q2,q3⟩,⟨f0,f1,f2,f3⟩,eD⟩:=AO.BQ hv;unfold aM at hW1;have je:=hHeld.ext eD.e;clear ag;(refine aO 8 ?_;intro K hK);go_simp;rw[<-hW1];clear hW1;refine hK.out _ _ (λ_=>je) ?_;clear hK K q0 q1 q2 q3 f0 f1 f2 f3;(try simp only[Act.put,aB,aC,aD]);refine dX ?_;go_wp2_with (fail)
         go_meet
         exact⟨_,_,rfl,eD⟩
       case rest=>
        obtain⟨g19,zv,rfl,rZ⟩:=hcut;have hXW:Ext wo wc:=mZ.out.trans rZ.e;have JJ:=ae (yC.out.ext hXW);have Jt:=ae (Ph.out.ext hXW);have ZY:=ae rZ.p;have qh5:=ae rZ.x
        have qg1:Hid (g19≠g13/\g19≠g14/\g19≠g17):=by
         have h1:=mZ.out.size;have h2:=rZ.f;have h3:=yC.out.A.lt;have h4:=yC.out.B.lt;have h5:=Ph.out.lt;exact⟨by omega,by omega,by omega⟩
        clear rZ hXW yC Ph eP Ms Ay mZ uS L9 og;have mZ:Hid (Ext wc wc.drew):=(aA _).drew;have qx:Hid (J6 g17 g14 g19 zc zb zv wc.drew):=J6.ext ⟨Jt.out.b.p4,JJ.out.B.b.p4,ZY.out⟩ (aA _).drew;have eP:=ae JJ.out.m;have Ms:=ae JJ.out.A.x;have Mt:=ae JJ.out.B.x;have C4:Hid (∀wk,Ext wc.drew wk->Calls Tryz.prog 195 #[.agg (ak za),.agg (ak zb),.int .i64 (J:Int)] wk (dO MX wk 4 r9)):=λwk he=>HR9.out MX wk za zb (eP.out.ext (mZ.out.trans he)) (Ms.out.ext (mZ.out.trans he)) (Mt.out.ext (mZ.out.trans he));have C6:Hid (∀wk u,Ext wc.drew wk->aN MX wk 4 u r9->Calls Tryz.prog 196 #[.agg (ak u),.agg (ak zv)] wk (dO MX wk 4 b')):=λwk u he hu=>Zh.out MX wk u zv (eP.out.ext (mZ.out.trans he)) hu (qh5.out.ext (mZ.out.trans he));have Gc:Hid (P4 wc.drew g13 za):=JJ.out.A.b.p4.ext mZ.out;clear Ms Mt eP HR9 Zh
        go_upto_region 16 with(fail)
        refine gB (J6 g17 g14 g19 zc zb zv) 8 (by kernel_rfl) qx.out (λhHeld=>?_);generalize wc.drew=wd at*;(refine cB [0,2,3,5] ?_;(iterate 4 (refine bZ (v:=?_) ?_ ?_;rotate_left 1;(intro wS hSw;obtain⟨⟨A0,A1,A2,A3⟩,⟨B0,B1,B2,B3⟩,D0,D1,D2,D3⟩:=hSw;go_simp;try with_reducible rfl);(try simp only[Act.put,aB,aC,aD])));refine cK ?_);obtain⟨a0,a1,a2,a3⟩:=Gc.out;(refine aO 1 ?_;intro K hK);go_simp;refine hK.out _ _ (λ_=>hHeld) ?_;clear hK K a0 a1 a2 a3 Gc;(try simp only[Act.put,aB,aC,aD]);((refine aO 4 ?_;intro K hK);go_simp;(refine(C4.out wd (aA _)).mono ?_);rintro e_ w9 ⟨u,rfl,hu,e2⟩;go_wp2_with (fail);(try clear ag);(have ag:=hHeld.ext e2);(refine hK.out _ _ (λ_=>ag) ?_);clear hK K;(try simp only[Act.put,aB,aC,aD]));((refine aO 6 ?_;intro K hK);go_simp;(refine(C6.out w9 u e2 hu).mono ?_);rintro e_ iT ⟨v5,rfl,Xp,e5⟩;go_wp2_with (fail);(try clear ag);(have ag:=hHeld.ext (e2.trans e5));(refine hK.out _ _ (λ_=>ag) ?_);clear hK K;(try simp only[Act.put,aB,aC,aD]));have yX:=mZ.out.trans (e2.trans e5);have Bw:=JJ.out.ext yX;have xO:=Jt.out.ext yX;have zF:=Bw.qAw oW.out xO.x;have qdP:=Xp.kp (Kp.aM Bw.m3 0 (.int .i64 zc.lv) (.bool zc.b) (.slice zc.a zc.n zc.p) (.slice zc.ka zc.kn zc.kp));have hh:=λq=>iI iT g13 0 (.int .i64 zc.lv) (.bool zc.b) (.slice zc.a zc.n zc.p) (.slice zc.ka zc.kn zc.kp) q
        have qcp:J6 g17 g14 g19 zc zb zv (aM iT g13 0 (.int .i64 zc.lv) (.bool zc.b) (.slice zc.a zc.n zc.p) (.slice zc.ka zc.kn zc.kp)):=⟨sH xO.b.p4 (hh g17 sP.out.2.2.1),zF.B.b.p4,sH (ZY.out.ext yX) (hh g19 qg1.out.1)⟩;obtain⟨q0,q1,q2,q3⟩:=Bw.A.b.p4;have eT:=Bw.A.b.frozen;have f0:=eT 0;have f1:=eT 1;have f2:=eT 2;have f3:=eT 3;obtain⟨yL,Fp⟩:∃yL,yL=aM iT g13 0 (.int .i64 zc.lv) (.bool zc.b) (.slice zc.a zc.n zc.p) (.slice zc.ka zc.kn zc.kp):=⟨_,rfl⟩;rw[<-Fp]at zF qdP qcp;unfold aM at Fp;have P6:=ae Fp;have Cx:=ae zF;have qhU:=ae qdP;clear yX Bw xO zF qdP hh Fp eT hu Xp e2 e5 C4 C6 qx mZ JJ Jt ZY qh5;(refine aO 7 ?_;intro K hK);go_simp;rw[<-P6.out];clear P6 q0 q1 q2 q3 f0 f1 f2 f3 ag;refine hK.out _ _ (λ_=>qcp) ?_;clear hK K;(try simp only[Act.put,aB,aC,aD]);have qdI:=Cx.out.qAx oW.out qhU.out;obtain⟨q0,q1,q2,q3⟩:=Cx.out.B.b.p4;have eT:=Cx.out.B.b.frozen;have f0:=eT 0;have f1:=eT 1;have f2:=eT 2;have f3:=eT 3;obtain⟨GN,Fq⟩:∃GN,GN=aM yL g14 0 (.int .i64 v5.lv) (.bool v5.b) (.slice v5.a v5.n v5.p) (.slice v5.ka v5.kn v5.kp):=⟨_,rfl⟩;rw[<-Fq]at qdI;unfold aM at Fq;have P7:=ae Fq;have Cy:=ae qdI;clear qdI Fq eT Cx qhU;(refine aO 8 ?_;intro K hK);go_simp;rw[<-P7.out];refine hK.out _ _ (λh=>absurd rfl h) ?_
        clear hK K P7 q0 q1 q2 q3 f0 f1 f2 f3 qcp;refine dX ?_;clear hHeld;have C2:=ae (PV.out MX GN zc Cy.out.m Cy.out.A.x);obtain⟨q0,q1,q2,q3⟩:=Cy.out.A.b.p4;go_wp2_with (fail);refine C2.out.mono ?_;rintro e9 w14 ⟨v6,rfl,BD,e6⟩;clear q0 q1 q2 q3;have Iy:=Cy.out.ext e6;have qdJ:=Iy.qAy oW.out BD;obtain⟨q0,q1,q2,q3⟩:=Iy.S.b.p4;have eT:=Iy.S.b.frozen;have f0:=eT 0;have f1:=eT 1;have f2:=eT 2;have f3:=eT 3;obtain⟨M8,NP⟩:∃M8,M8=aM w14 g12 0 (.int .i64 v6.lv) (.bool v6.b) (.slice v6.a v6.n v6.p) (.slice v6.ka v6.kn v6.kp):=⟨_,rfl⟩;rw[<-NP]at qdJ;unfold aM at NP;have qhX:=ae NP;have qac:Hid (O5 M w J n gt g12 g13 g14 F M8 k):=⟨MX,c,b',s',L',zc,v5,v6,qdJ,HRQ.out⟩;clear Iy qdJ NP eT BD e6 C2 Cy HRQ PV oW Co pJ Ul qgZ sP qg1;go_wp2;rw[<-qhX.out];clear qhX q0 q1 q2 q3 f0 f1 f2 f3
        go_roundw
        case rel=>exact⟨k,qac.out⟩
        case measure=>
         have h:=(qoe qac.out).2 k qac.out;have:=Ah.out;omega
theorem E5(x:Nat->Int){l:List Tm}(h:NN l):ev x (dN l)= -ev x l:=by
 show ev x (aF l [(-1,Mo.zero)])=_;rw[di x h (oM (-1)),nK,Int.mul_neg,Int.mul_one]
theorem qiT{J:Nat}(h1:1<=J)(h4:J<=4)(e:Int)(l:List Tm):af (ck J e (dN l)) (dN (ck J e l)):=λm=>by
 rw[oh h1 h4,qO,qO,oh h1 h4]
 split
 ·rfl
 ·rfl
theorem Vx{J:Nat}(h1:1<=J)(h4:J<=4){P:Nat->List Tm}(hP:∀i,iK J (P i))(e:Nat):∀N:Nat,af (ck J (e:Int) (aQ J N P)) (if e<N then P e else[])
 |0=>λ_=>rfl
 |N+1=>λm=>by
  have ih:=Vx h1 h4 hP e N m;rw[oh h1 h4]at ih;rw[oh h1 h4,gT,iZ,rP]
  have key:m.get J=0->aL (P N) (Mo.sub (Mo.add m (xp J (e:Int))) (xp J (N:Int)))=if e=N then aL (P e) m else 0:=λh0=>by
   by_cases he:e=N
   ·subst he;rw[ai rfl]
    congr 1
    exact((Mo.add_eq _ _ _).1 rfl).symm
   ·rw[ah he];refine eF λhc=>?_;have:=hP N _ hc;rw[sZ,iH,h0,eQ J J _ h1 h4,eQ J J _ h1 h4,ai rfl,ai rfl]at this;omega
  by_cases h0:m.get J=0
  ·rw[ai h0]at ih⊢;rw[ih,key h0]
   by_cases he:e=N
   ·subst he;rw[ah (Nat.lt_irrefl _),ai rfl,ai (Nat.lt_succ_self _)];show 0+_=_;omega
   ·rw[ah he]
    by_cases hl:e<N
    ·rw[ai hl,ai (by omega)];omega
    ·rw[ah hl,ah (by omega)];rfl
  ·rw[ah h0]at ih⊢
   by_cases hl:e<N+1
   ·rw[ai hl];refine(eF λhc=>?_);exact h0 (hP e m λh=>hc h.symm)
   ·rw[ah hl];rfl
theorem VQ{J:Nat}(h1:1<=J)(h4:J<=4){l:List Tm}(nl:NN l){n:Nat}(h0:∀i:Nat,n<i->af (ck J (i:Int) l) [])(hn:n=0\/¬af (ck J (n:Int) l) []):bE J l n:=by
 refine⟨λm hm=>?_,hn.imp id λh=>VA h1 h4 h⟩
 have j6:m.nn=true:=by
  cases hq:m.nn with
  |true=>rfl
  |false=>exact absurd (nl m hq) hm
 have h5:=wZ j6 J;refine eF λhc=>?_;have h6:=h0 (m.get J).toNat (by omega);rw[show(((m.get J).toNat:Nat):Int)=m.get J by omega]at h6;exact ET h1 h4 hm h6
theorem qzv{J:Nat}(h1:1<=J)(h4:J<=4){l:List Tm}(nl:NN l)(h0:∀i:Nat,af (ck J (i:Int) l) []):af l []:=λm=>by
 refine eF λhm=>?_
 have j6:m.nn=true:=by
  cases hq:m.nn with
  |true=>rfl
  |false=>exact absurd (nl m hq) hm
 have h5:=wZ j6 J;have h6:=h0 (m.get J).toNat;rw[show(((m.get J).toNat:Nat):Int)=m.get J by omega]at h6;exact ET h1 h4 hm h6
theorem bE.Qs{J n:Nat}(h1:1<=J)(h4:J<=4){l:List Tm}(h:bE J l n){i:Nat}(hi:n<i):af (ck J (i:Int) l) []:=qts h1 h4 h.1 hi
theorem bE.VC{J n:Nat}(h1:1<=J)(h4:J<=4){l:List Tm}(h:bE J l n)(hn:1<=n):¬af (ck J (n:Int) l) []:=by
 obtain⟨m,hm,e⟩:=h.2.resolve_left (by omega);rw[<-e];exact ET h1 h4 hm
structure Sz(B A:Nat)(l:List Tm):Prop where
 n:NN l
 d:bH B l
 a:aH (aK l)<=A
theorem Sz.ck{B A J:Nat}{l:List Tm}(h:Sz B A l)(h1:1<=J)(h4:J<=4)(e:Int):ji J B A (ck J e l):=qbe h1 h4 h.n h.d h.a e
theorem ji.sz{J B A:Nat}{l:List Tm}(h:ji J B A l):Sz B A l:=⟨h.1,h.2.2.1,h.2.2.2⟩
theorem J3.dh{J:Nat}{a b c a' b' c':List Tm}(h:J3 J a b c)(ha:af a a')(hb:af b b')(hc:af c c'):J3 J a' b' c':=λM W x y hM hx hy=>(h M W x y hM (hx.dh ha.symm) (hy.dh hb.symm)).mono λ_ _ k=>k.dh hc
theorem qbs{J:Nat}{a:List Tm}{z:Int}(h1:1<=J)(h4:J<=4)(nn:NN a)(hz:O8 J a z):O7 J a z:=λM W x hM hx=>Oy M x a J z W h1 h4 nn hz hM hx.pi
def mP(J:Nat)(f g:List Tm):List Tm:=aF (gL J f 2) (gL J g 1)++dN (aF (gL J f 1) (gL J g 2))
def mQ(J:Nat)(f g:List Tm):List Tm:=aF (gL J f 2) (gL J g 0)++dN (aF (gL J f 0) (gL J g 2))
def mW(J:Nat)(f g:List Tm):List Tm:=aF (gL J f 1) (gL J g 0)++dN (aF (gL J f 0) (gL J g 1))
def mR(J:Nat)(f g:List Tm):List Tm:=aF (mQ J f g) (mQ J f g)++dN (aF (mP J f g) (mW J f g))
def mS(J:Nat)(f g:List Tm):List Tm:=aQ J 2 λi=>if i=0 then mQ J f g else mP J f g
section
end
section
end
def f22(J:Nat)(f g:List Tm):Nat->List Tm:=λj=>if j=0 then mR J f g else mS J f g
theorem qBU:Sz 0 1 [((1:Int),Mo.zero)]:=⟨oM 1,λm hm k=>by
 have h:m=Mo.zero:=eF λhc=>hm (by simp only[aL];rw[ah λe=>hc e.symm];rfl)
 rw[h,uw];omega,by decide⟩
theorem Yy{B A k:Nat}{l:List Tm}(h:Sz B A l):Sz (k*B) (k*A+1) (bO l k):=by
 induction k with
 |zero=>rw[Nat.zero_mul,Nat.zero_mul];exact qBU
 |succ k ih=>
  rw[Lm];refine⟨bT ih.n h.n,?_,?_⟩
  ·rw[Nat.succ_mul];exact bH.aF ih.d h.d ih.n
  ·rw[zL,Nat.succ_mul];have:=pQ (aK (bO l k)) (aK l);have:=ih.a;have:=h.a;omega
theorem qjS(x:Nat->Int)(l:List Tm):ev x (bO l 0)=1:=nK x 1
theorem Sz.mono{B A C D:Nat}{l:List Tm}(h:Sz B A l)(hB:B<=C)(hA:A<=D):Sz C D l:=⟨h.n,h.d.mono hB,aR h.a hA⟩
theorem bE.nz{J n:Nat}{l:List Tm}(h1:1<=J)(h4:J<=4)(h:bE J l n)(hn:1<=n):¬af l []:=λhs=>h.VC h1 h4 hn (jk hs)
section
end
end Go.Proofs.YtmcfpnmoklnhoaaGreat
