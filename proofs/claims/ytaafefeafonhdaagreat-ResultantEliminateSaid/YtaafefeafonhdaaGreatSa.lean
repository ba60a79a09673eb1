/- Sa -/
import Derived.Test.YtaafefeafonhdaaGreatEg
set_option linter.unusedVariables false
set_option maxRecDepth 100000
set_option maxHeartbeats 400000000
set_option linter.unusedSimpArgs false
namespace Go.Proofs.YtaafefeafonhdaaGreat
open Go.RowKit
def Gf(J:Nat)(a l:List Tm):Prop:=∀(M:Nat->Prop)(W:World)(x:PE),Mb M W->aG M W 4 x a->Calls Tryz.prog 66 #[.agg (ag x),.int .i64 (J:Int)] W (di M W 4 l)
def FL(J:Nat)(a:List Tm)(z:Int):Prop:=∀(M:Nat->Prop)(W:World)(x:PE),Mb M W->aG M W 4 x a->Calls Tryz.prog 14 #[.agg (ag x),.int .i64 (J:Int)] W λe w'=>e=.returned (.int .i64 z)/\Ext W w'
def JF(l:List Tm)(k:Nat)(s:List Tm):Prop:=∀(M:Nat->Prop)(W:World)(x:PE),Mb M W->aG M W 4 x l->Calls Tryz.prog 23 #[.agg (ag x),.int .i64 (k:Int)] W (di M W 4 s)
def JD(a b c:List Tm):Prop:=∀(M:Nat->Prop)(W:World)(x y:PE),Mb M W->aG M W 4 x a->aG M W 4 y b->Calls Tryz.prog 24 #[.agg (ag x),.agg (ag y)] W (di M W 4 c)
def JG(a b c:List Tm):Prop:=∀(M:Nat->Prop)(W:World)(x y:PE),Mb M W->aG M W 4 x a->aG M W 4 y b->Calls Tryz.prog 148 #[.agg (ag x),.agg (ag y)] W (di M W 4 c)
def JI(J:Nat)(a b r:List Tm):Prop:=∀(M:Nat->Prop)(W:World)(x y:PE),Mb M W->aG M W 4 x a->aG M W 4 y b->Calls Tryz.prog 147 #[.agg (ag x),.agg (ag y),.int .i64 (J:Int)] W (di M W 4 r)
def zG(L:Nat->List Tm)(i:Nat)(b:List Tm):Nat->List Tm:=λj=>if j=i then b else L j
def CPh(J:Nat)(b s:List Tm)(gap e:Nat)(L L':Nat->List Tm)(c:List Tm):Prop:=
 (gap=1/\c=b/\L'=L)\/(1<gap/\L'=zG L e c/\∃lb p c0 q,Gf J b lb/\JF lb (gap-1) p/\JD p b c0/\JF s (gap-1) q/\JG c0 q c)
def LG(J n:Nat)(F:Nat->List Tm):Nat->List Tm->List Tm->List Tm->(Nat->List Tm)->Prop
 |0,_,_,_,_=>False
 |k+1,a,b,s,L=>∃d:Int,FL J a d/\ -1<=d/\d<=1000/\((FL J b (-1)/\∀i,i<n->af (L i) (F i))\/∃(dn e:Nat)(c:List Tm)(L':Nat->List Tm),d=(dn:Int)/\FL J b (e:Int)/\e<dn/\dn<=n/\CPh J b s (dn-e) e (zG L (dn-1) b) L' c/\
  ((e=0/\∀i,i<n->af (L' i) (F i))\/(0<e/\∃s1 la dv r b' s',JF s (dn-e) s1/\Gf J a la/\JD s1 la dv/\JI J a b r/\JG r dv b'/\Gf J c s'/\LG J n F k c b' s' L')))
structure nk(M:Nat->Prop)(w:World)(g:Nat)(z:PE)(l:List Tm):Prop where
 b:au w g 42 4 (arr (ag z))
 x:aG M w 4 z l
theorem nk.ext{M:Nat->Prop}{w w':World}{g:Nat}{z:PE}{l:List Tm}(h:nk M w g z l)(he:Ext w w'):nk M w' g z l:=⟨h.b.ext he,h.x.ext he⟩
theorem nk.more{M M':Nat->Prop}{w:World}{g:Nat}{z:PE}{l:List Tm}(h:nk M w g z l)(hm:∀b,M' b->M b\/w.heap.size<=b):nk M' w g z l:=⟨h.b,h.x.more hm⟩
theorem nk.other{M:Nat->Prop}{w w':World}{g:Nat}{z:PE}{l:List Tm}(h:nk M w g z l)(hk:Kp M w w')(hh:w'.heap[g]?=w.heap[g]?):nk M w' g z l:=⟨h.b.of_heap hh,h.x.kp hk⟩
theorem nk.put{M:Nat->Prop}{w:World}{g:Nat}{z u:PE}{l r:List Tm}(h:nk M w g z l)(hg:M g)(hu:aG M w 4 u r):nk M (aD w g 0 (.int .i64 u.lv) (.bool u.b) (.slice u.a u.n u.p) (.slice u.ka u.kn u.kp)) g u r:=
 ⟨JV h.b u,hu.kp (Kp.aD hg _ _ _ _ _)⟩
theorem nk.lt{M:Nat->Prop}{w:World}{g:Nat}{z:PE}{l:List Tm}(h:nk M w g z l):g<w.heap.size:=h.b.lt
structure lS(M:Nat->Prop)(w:World)(n gt g12 g13 g14:Nat)(MW:Nat->Prop)(wr:World)(a b s:List Tm)(L:Nat->List Tm)(za zb zs:PE):Prop where
 A:nk MW wr g13 za a
 B:nk MW wr g14 zb b
 S:nk MW wr g12 zs s
 L:Kids MW wr 4 gt n L
 m:Mb MW wr
 e:Ext w wr
 sub:∀b,M b->MW b
 sup:∀b,MW b->M b\/w.heap.size<=b
 mt:MW gt
 m2:MW g12
 m3:MW g13
 m4:MW g14
def O9(w:World)(gt g12 g13 g14:Nat):Prop:=(gt≠g12/\gt≠g13/\gt≠g14/\g12≠g13/\g12≠g14/\g13≠g14)/\w.heap.size<=gt/\w.heap.size<=g12/\w.heap.size<=g13/\w.heap.size<=g14
section
variable{M:Nat->Prop}{w:World}{n gt g12 g13 g14:Nat}{MW:Nat->Prop}{wr:World}{a b s:List Tm}{L:Nat->List Tm}{za zb zs:PE}
theorem lS.ext(h:lS M w n gt g12 g13 g14 MW wr a b s L za zb zs){w':World}(he:Ext wr w'):lS M w n gt g12 g13 g14 MW w' a b s L za zb zs:=
 ⟨h.A.ext he,h.B.ext he,h.S.ext he,h.L.ext he,h.m.ext he,h.e.trans he,h.sub,h.sup,h.mt,h.m2,h.m3,h.m4⟩
theorem lS.more(h:lS M w n gt g12 g13 g14 MW wr a b s L za zb zs){w':World}(he:Ext wr w'){g:Nat}(hg:wr.heap.size<=g)(NW:g<w'.heap.size):lS M w n gt g12 g13 g14 (λq=>MW q\/q=g) w' a b s L za zb zs:=by
 have hm:∀q,(MW q\/q=g)->MW q\/wr.heap.size<=q:=λq hq=>hq.imp id λe=>by omega
 exact⟨(h.A.more hm).ext he,(h.B.more hm).ext he,(h.S.more hm).ext he,(h.L.more hm).ext he,Ij (h.m.ext he) NW,h.e.trans he,λq hq=>.inl (h.sub q hq),λq hq=>hq.elim (h.sup q) λe=>.inr (by have:=h.e.size;omega),.inl h.mt,.inl h.m2,.inl h.m3,.inl h.m4⟩
theorem lS.list(h:lS M w n gt g12 g13 g14 MW wr a b s L za zb zs)(hd:O9 w gt g12 g13 g14){i:Nat}(hi:i<n){u:PE}{r:List Tm}(hu:aG MW wr 4 u r):lS M w n gt g12 g13 g14 MW (aD wr gt (i*4) (.int .i64 u.lv) (.bool u.b) (.slice u.a u.n u.p) (.slice u.ka u.kn u.kp)) a b s (zG L i r) za zb zs:=by
 have hk:Kp MW wr (aD wr gt (i*4) (.int .i64 u.lv) (.bool u.b) (.slice u.a u.n u.p) (.slice u.ka u.kn u.kp)):=Kp.aD h.mt _ _ _ _ _;have hh:=λq=>fD wr gt (i*4) (.int .i64 u.lv) (.bool u.b) (.slice u.a u.n u.p) (.slice u.ka u.kn u.kp) q;exact⟨h.A.other hk (hh _ λe=>hd.1.2.1 e.symm),h.B.other hk (hh _ λe=>hd.1.2.2.1 e.symm),h.S.other hk (hh _ λe=>hd.1.1 e.symm),h.L.set h.mt i hi hu,h.m.size hk.1,h.e.aD hd.2.1 _ _ _ _ _,h.sub,h.sup,h.mt,h.m2,h.m3,h.m4⟩
theorem lS.beside(h:lS M w n gt g12 g13 g14 MW wr a b s L za zb zs){g:Nat}(hg:MW g)(h1:g≠gt/\g≠g12/\g≠g13/\g≠g14/\w.heap.size<=g)(u:PE):lS M w n gt g12 g13 g14 MW (aD wr g 0 (.int .i64 u.lv) (.bool u.b) (.slice u.a u.n u.p) (.slice u.ka u.kn u.kp)) a b s L za zb zs:=by
 have hk:Kp MW wr (aD wr g 0 (.int .i64 u.lv) (.bool u.b) (.slice u.a u.n u.p) (.slice u.ka u.kn u.kp)):=Kp.aD hg _ _ _ _ _;have hh:=λq=>fD wr g 0 (.int .i64 u.lv) (.bool u.b) (.slice u.a u.n u.p) (.slice u.ka u.kn u.kp) q;exact⟨h.A.other hk (hh _ λe=>h1.2.2.1 e.symm),h.B.other hk (hh _ λe=>h1.2.2.2.1 e.symm),h.S.other hk (hh _ λe=>h1.2.1 e.symm),h.L.kp (hh _ λe=>h1.1 e.symm) hk,h.m.size hk.1,h.e.aD h1.2.2.2.2 _ _ _ _ _,h.sub,h.sup,h.mt,h.m2,h.m3,h.m4⟩
theorem lS.qB3(h:lS M w n gt g12 g13 g14 MW wr a b s L za zb zs)(hd:O9 w gt g12 g13 g14){u:PE}{r:List Tm}(hu:aG MW wr 4 u r):lS M w n gt g12 g13 g14 MW (aD wr g13 0 (.int .i64 u.lv) (.bool u.b) (.slice u.a u.n u.p) (.slice u.ka u.kn u.kp)) r b s L u zb zs:=by
 have hk:Kp MW wr (aD wr g13 0 (.int .i64 u.lv) (.bool u.b) (.slice u.a u.n u.p) (.slice u.ka u.kn u.kp)):=Kp.aD h.m3 _ _ _ _ _;have hh:=λq=>fD wr g13 0 (.int .i64 u.lv) (.bool u.b) (.slice u.a u.n u.p) (.slice u.ka u.kn u.kp) q;exact⟨h.A.put h.m3 hu,h.B.other hk (hh _ λe=>hd.1.2.2.2.2.2 e.symm),h.S.other hk (hh _ hd.1.2.2.2.1),h.L.kp (hh _ hd.1.2.1) hk,h.m.size hk.1,h.e.aD hd.2.2.2.1 _ _ _ _ _,h.sub,h.sup,h.mt,h.m2,h.m3,h.m4⟩
theorem lS.qB4(h:lS M w n gt g12 g13 g14 MW wr a b s L za zb zs)(hd:O9 w gt g12 g13 g14){u:PE}{r:List Tm}(hu:aG MW wr 4 u r):lS M w n gt g12 g13 g14 MW (aD wr g14 0 (.int .i64 u.lv) (.bool u.b) (.slice u.a u.n u.p) (.slice u.ka u.kn u.kp)) a r s L za u zs:=by
 have hk:Kp MW wr (aD wr g14 0 (.int .i64 u.lv) (.bool u.b) (.slice u.a u.n u.p) (.slice u.ka u.kn u.kp)):=Kp.aD h.m4 _ _ _ _ _;have hh:=λq=>fD wr g14 0 (.int .i64 u.lv) (.bool u.b) (.slice u.a u.n u.p) (.slice u.ka u.kn u.kp) q;exact⟨h.A.other hk (hh _ hd.1.2.2.2.2.2),h.B.put h.m4 hu,h.S.other hk (hh _ hd.1.2.2.2.2.1),h.L.kp (hh _ hd.1.2.2.1) hk,h.m.size hk.1,h.e.aD hd.2.2.2.2 _ _ _ _ _,h.sub,h.sup,h.mt,h.m2,h.m3,h.m4⟩
theorem lS.qB6(h:lS M w n gt g12 g13 g14 MW wr a b s L za zb zs)(hd:O9 w gt g12 g13 g14){u:PE}{r:List Tm}(hu:aG MW wr 4 u r):lS M w n gt g12 g13 g14 MW (aD wr g12 0 (.int .i64 u.lv) (.bool u.b) (.slice u.a u.n u.p) (.slice u.ka u.kn u.kp)) a b r L za zb u:=by
 have hk:Kp MW wr (aD wr g12 0 (.int .i64 u.lv) (.bool u.b) (.slice u.a u.n u.p) (.slice u.ka u.kn u.kp)):=Kp.aD h.m2 _ _ _ _ _;have hh:=λq=>fD wr g12 0 (.int .i64 u.lv) (.bool u.b) (.slice u.a u.n u.p) (.slice u.ka u.kn u.kp) q;exact⟨h.A.other hk (hh _ λe=>hd.1.2.2.2.1 e.symm),h.B.other hk (hh _ λe=>hd.1.2.2.2.2.1 e.symm),h.S.put h.m2 hu,h.L.kp (hh _ hd.1.1) hk,h.m.size hk.1,h.e.aD hd.2.2.1 _ _ _ _ _,h.sub,h.sup,h.mt,h.m2,h.m3,h.m4⟩
end
def JH(M:Nat->Prop)(w:World)(n:Nat)(F:Nat->List Tm)(e:Ending)(w':World):Prop:=∃gl:Nat,e=.returned (.slice (some ⟨gl,0,none⟩) n n)/\w.heap.size<=gl/\Kids (λb=>M b\/b=gl) w' 4 gl n F/\Ext w w'
theorem lS.ret{M:Nat->Prop}{w:World}{n gt g12 g13 g14:Nat}{MW:Nat->Prop}{wr:World}{a b s:List Tm}{L F:Nat->List Tm}{za zb zs:PE}(h:lS M w n gt g12 g13 g14 MW wr a b s L za zb zs)(jT:w.heap.size<=gt)(hF:∀i,i<n->af (L i) (F i)):JH M w n F (.returned (.slice (some ⟨gt,0,none⟩) n n)) wr:=
 ⟨gt,rfl,jT,(h.L.congr hF).more λb hb=>.inl (hb.elim (h.sub b) λe=>by rw[e];exact h.mt),h.e⟩
theorem qz3{P:Nat->Prop}:∀k,P k->∃j,P j/\∀i,P i->j<=i:=by
 intro k
 induction k using Nat.strongRecOn with
 |_ k ih=>
  intro hk
  by_cases h:∃i,P i/\i<k
  ·obtain⟨i,hi,hlt⟩:=h;exact ih i hlt hi
  ·exact⟨k,hk,λi hi=>Nat.le_of_not_lt λhl=>h ⟨i,hi,hl⟩⟩
noncomputable def XD(P:Nat->Prop):Nat:=Classical.epsilon λk=>P k/\∀j,P j->k<=j
theorem qo2{P:Nat->Prop}{k:Nat}(h:P k):P (XD P)/\∀j,P j->XD P<=j:=
 Classical.epsilon_spec (p:=λk=>P k/\∀j,P j->k<=j) (qz3 k h)
structure qiS(M':Nat->Prop)(wd W:World)(a b:Nat)(x y:PE)(l r:List Tm):Prop where
 e:Ext wd W
 A:nk (M9 M' (some a) (some b)) W a x l
 B:nk (M9 M' (some a) (some b)) W b y r
 m:Mb (M9 M' (some a) (some b)) W
 la:wd.heap.size<=a
 lb:wd.heap.size<=b
 ne:b≠a
theorem S9.qqp{M':Nat->Prop}{wd wk:World}{a b:Nat}{x y:PE}{l r:List Tm}(h:S9 M' wd wk (some a) (some b))(oZ:aG M' wd 4 x l)(hy:aG (M9 M' (some a) (some b)) wk 4 y r):
 ∃W1,W1=aD wk a 0 (.int .i64 x.lv) (.bool x.b) (.slice x.a x.n x.p) (.slice x.ka x.kn x.kp)/\Z4 wk a/\LM wk a/\Ext wd W1/\Z4 W1 b/\LM W1 b/\
 ∃W2,W2=aD W1 b 0 (.int .i64 y.lv) (.bool y.b) (.slice y.a y.n y.p) (.slice y.ka y.kn y.kp)/\qiS M' wd W2 a b x y l r:=by
 obtain⟨hB,hw⟩:=h.a a rfl;obtain⟨hB',hw'⟩:=h.b b rfl;have hne:b≠a:=λe=>h.ne a rfl (by rw[e]);have hx:aG (M9 M' (some a) (some b)) wk 4 x l:=(oZ.more h.sub).ext h.e;have k1:Kp (M9 M' (some a) (some b)) wk (aD wk a 0 (.int .i64 x.lv) (.bool x.b) (.slice x.a x.n x.p) (.slice x.ka x.kn x.kp)):=Kp.aD (.inr (.inl rfl)) _ _ _ _ _;have b1:=JV hB x;have b2:=hB'.of_heap (fD wk a 0 (.int .i64 x.lv) (.bool x.b) (.slice x.a x.n x.p) (.slice x.ka x.kn x.kp) b hne);have e1:=h.e.aD hw 0 (.int .i64 x.lv) (.bool x.b) (.slice x.a x.n x.p) (.slice x.ka x.kn x.kp);have R6:=h.mb.size k1.1;have fo:=hx.kp k1;have jX:=hy.kp k1;refine⟨_,rfl,hB.z4,hB.Nn,e1,b2.z4,b2.Nn,_,rfl,?_⟩;generalize aD wk a 0 (.int .i64 x.lv) (.bool x.b) (.slice x.a x.n x.p) (.slice x.ka x.kn x.kp)=W1 at*;have k2:Kp (M9 M' (some a) (some b)) W1 (aD W1 b 0 (.int .i64 y.lv) (.bool y.b) (.slice y.a y.n y.p) (.slice y.ka y.kn y.kp)):=Kp.aD (.inr (.inr rfl)) _ _ _ _ _;exact⟨e1.aD hw' _ _ _ _ _,⟨b1.of_heap (fD _ _ _ _ _ _ _ _ (λe=>hne e.symm)),fo.kp k2⟩,⟨JV b2 y,jX.kp k2⟩,R6.size k2.1,hw,hw',hne⟩
theorem S9.qfa{M':Nat->Prop}{wd wk:World}{B:Option Nat}(h:S9 M' wd wk none B):∃v g,wk.alloc (.cells zA 42)=v/\wk.heap.size=g/\S9 M' wd v (some g) B/\∀(x:PE)(l:List Tm),aG (M9 M' none B) wk 4 x l->aG (M9 M' (some g) B) v 4 x l:=⟨_,_,rfl,rfl,h.uM,λ_ _ k=>h.lN k⟩
theorem S9.qfb{M':Nat->Prop}{wd wk:World}{A:Option Nat}(h:S9 M' wd wk A none):∃v g,wk.alloc (.cells zA 42)=v/\wk.heap.size=g/\S9 M' wd v A (some g)/\∀(x:PE)(l:List Tm),aG (M9 M' A none) wk 4 x l->aG (M9 M' A (some g)) v 4 x l:=⟨_,_,rfl,rfl,h.qtW,λ_ _ k=>h.qeS k⟩
theorem S9.swap{M':Nat->Prop}{wd wk:World}{A B:Option Nat}(h:S9 M' wd wk A B):S9 M' wd wk B A:=⟨h.e,h.m,h.b,h.a,λg hb ha=>h.ne g ha hb⟩
theorem aG.qDT{M':Nat->Prop}{w:World}{A B:Option Nat}{x:PE}{l:List Tm}(h:aG (M9 M' A B) w 4 x l):aG (M9 M' B A) w 4 x l:=h.more λg hg=>.inl (hg.elim .inl λk=>.inr k.symm)
def qr2(M':Nat->Prop)(y:PE)(l r:List Tm)(wd:World)(TD s14:Value)(wx:World):Prop:=∃(a b:Nat)(z:PE),TD=.pointer (some ⟨a,0,none⟩)/\s14=.pointer (some ⟨b,0,none⟩)/\qiS M' wd wx a b y z l r
def O8(M:Nat->Prop)(w:World)(J n gt g12 g13 g14:Nat)(F:Nat->List Tm)(wr:World)(k:Nat):Prop:=∃(MW:Nat->Prop)(a b s:List Tm)(L:Nat->List Tm)(za zb zs:PE),lS M w n gt g12 g13 g14 MW wr a b s L za zb zs/\LG J n F k a b s L
def JM(a b c:Nat)(x y z:PE)(w:World):Prop:=P4 w a x/\P4 w b y/\P4 w c z
theorem JM.ext{a b c:Nat}{x y z:PE}{w w':World}(h:JM a b c x y z w)(he:Ext w w'):JM a b c x y z w':=⟨h.1.ext he,h.2.1.ext he,h.2.2.ext he⟩
def YI(M:Nat->Prop)(w:World)(n gt g12 g13 g14 g17:Nat)(a b s c:List Tm)(L:Nat->List Tm)(za zb zs:PE)(wx:World):Prop:=∃(MW:Nat->Prop)(zc:PE),lS M w n gt g12 g13 g14 MW wx a b s L za zb zs/\nk MW wx g17 zc c/\MW g17
theorem qfT(M:Nat->Prop)(x y:PE)(J m n fuel:Nat)(a b l s r:List Tm)(F:Nat->List Tm)(w:World)(hM:Mb M w)(hn:1<=n)(yY:n<=m)(hm:m<=100)
 (hx:aG M w 4 x a) (hy:aG M w 4 y b) (ld:Gf J b l) (pw:JF l (m-n) s) (rm:JI J a b r) (run:LG J n F fuel b r s (λ_=>[])):
 Calls Tryz.prog 118 #[.agg (ag x),.agg (ag y),.int .i64 (J:Int),.int .i64 (m:Int),.int .i64 (n:Int)] w (JH M w n F):=by
 obtain⟨i0,hi,hz0,hz1,hz2⟩:=info_parts Tryz.xU;have hE:=((ai w).alloc (.cells (ag x) 42)).alloc (.cells (ag y) 42);have kg:=XL w x y
 have jV:((w.alloc (.cells (ag x) 42)).alloc (.cells (ag y) 42)).heap.size=w.heap.size+2:=by simp
 generalize hW:(w.alloc (.cells (ag x) 42)).alloc (.cells (ag y) 42)=W at*;have HW:=ae hW;have HE:=ae hE;have qQ:=ae kg;have BX:=ae jV;have HM:=ae hM;have HX:=ae hx;have HY:=ae hy;have HLD:=ae ld;have P7:=ae pw;have HRM:=ae rm;have qad:=ae run;have yo:Hid (1<=n/\n<=m/\m<=100):=⟨hn,yY,hm⟩
 have Og:(n:Int)<=100:=by omega
 have iN:(0:Int)<=(n:Int):=jE _;clear hE kg hW jV hM hx hy ld pw rm run hn yY hm
 go_enter Tryz.func118,Tryz.ntmps118
 go_upto_region 1 with(fail)
 rw[HW.out]
 go_wp2_with (first|(at_make;refine Yp _ rfl _ _ _ rfl 42 i0 (.agg #[.int .i64 0,.bool false,.slice none 0 0,.slice none 0 0]) 4 Tryz.underlying34 hi hz0 hz1 .i64 .i64 _ _ n rfl rfl ?c4 ?c5 ?c2 ?c3 ?_))
 case c2=>rw[hz2];omega
 case c3=>unfold maxLen;omega
 case c4=>first|rfl|simp
 case c5=>first|rfl|simp
 have bR:=QE W n 42;have ah:=(ai W).alloc (.cells (madeCells (Value.agg #[.int .i64 0,.bool false,.slice none 0 0,.slice none 0 0]).cells (n*4)) 42);intro w1 hw1;replace hw1:W.alloc (.cells (madeCells (Value.agg #[.int .i64 0,.bool false,.slice none 0 0,.slice none 0 0]).cells (n*4)) 42)=w1:=hw1.out.symm;rw[hw1]at bR ah;obtain⟨gt,jT⟩:∃gt,gt=W.heap.size:=⟨_,rfl⟩;obtain⟨g0,sD⟩:∃g0,g0=w.heap.size:=⟨_,rfl⟩;rw[<-jT]at bR⊢;rw[<-sD]at qQ⊢;have FU:Hid (gt=w.heap.size+2):=jT.trans BX.out;have qU:Hid (Mb (λb=>M b\/b=gt) w1):=Ij (HM.out.ext (HE.out.trans ah)) bR.lt;have Mj:Hid (Kids (λb=>M b\/b=gt) w1 4 gt n (λ_=>[])):=Kids.fresh bR;have aP:Hid (Ext w w1):=HE.out.trans ah
 have uh:∀b,(M b\/b=gt)->M b\/w.heap.size<=b:=λb hb=>hb.imp id λh=>by have:=FU.out;omega
 have nJ:Hid (aG (λb=>M b\/b=gt) w1 4 x a):=(HX.out.more uh).ext aP.out;have uH:Hid (aG (λb=>M b\/b=gt) w1 4 y b):=(HY.out.more uh).ext aP.out;obtain⟨⟨x0,x1,x2,x3⟩,y0,y1,y2,y3⟩:P4 w1 g0 x/\P4 w1 (g0+1) y:=⟨qQ.out.1.ext ah,qQ.out.2.ext ah⟩;have Mv:Hid (P4 w1 g0 x/\P4 w1 (g0+1) y):=⟨qQ.out.1.ext ah,qQ.out.2.ext ah⟩;clear bR ah hw1 jT sD qQ BX HM HE HW hi hz0 hz1 hz2 HX HY uh
 have hmw:IntKind.i64.wrap ((m:Int)-(n:Int))=((m-n:Nat):Int):=by
  have h:=yo.out;rw[IntWalk.i64_in _ (by omega)];omega
 go_wp2_with (fail);refine(HLD.out _ w1 y qU.out uH.out).mono ?_;rintro e w2 ⟨u,rfl,hu,e2⟩;have aZ:=ae e2;have HU:=ae hu;obtain⟨⟨x0,x1,x2,x3⟩,y0,y1,y2,y3⟩:P4 w2 g0 x/\P4 w2 (g0+1) y:=⟨Mv.out.1.ext e2,Mv.out.2.ext e2⟩;clear hu e2;go_wp2_with (fail)
 try rw[hmw]
 refine(P7.out _ w2 u (qU.out.ext aZ.out) HU.out).mono ?_;rintro e w3 ⟨v,rfl,hv,e3⟩;have eZ:=(ai w3).alloc (.cells (ag v) 42);have dK:=ae ((aZ.out.trans e3).trans eZ);have VL:au (w3.alloc (.cells (ag v) 42)) w3.heap.size 42 4 (arr (ag v)):=au.aO w3 (ag v) 42 4 rfl
 have uh:∀q,((M q\/q=gt)\/q=w3.heap.size)->(M q\/q=gt)\/w3.heap.size<=q:=λq hq=>hq.imp id λh=>by omega
 have hV:aG (λq=>(M q\/q=gt)\/q=w3.heap.size) (w3.alloc (.cells (ag v) 42)) 4 v s:=(hv.more uh).ext eZ;have hm4:Mb (λq=>(M q\/q=gt)\/q=w3.heap.size) (w3.alloc (.cells (ag v) 42)):=Ij (qU.out.ext ((aZ.out.trans e3).trans eZ)) VL.lt;have mJ:w1.heap.size<=w3.heap.size:=(aZ.out.trans e3).size;generalize gN:w3.alloc (.cells (ag v) 42)=w4 at*;have xm:=ae gN;obtain⟨g12,qdP⟩:∃g12,g12=w3.heap.size:=⟨_,rfl⟩;rw[<-qdP]at VL uh hV hm4 mJ;have qhm:=ae qdP;have Mi:Hid (nk (λq=>(M q\/q=gt)\/q=g12) w4 g12 v s):=⟨VL,hV⟩;have Jd:=ae hm4;have pz:Hid (w.heap.size<=g12/\gt≠g12):=⟨by have:=aP.out.size;omega,by have:=Mj.out.lt;omega⟩
 have WI:∀q,((M q\/q=gt)\/q=g12)->(M q\/q=gt)\/w1.heap.size<=q:=λq hq=>hq.imp id λh=>by omega
 have Ev:Hid (Kids (λq=>(M q\/q=gt)\/q=g12) w4 4 gt n (λ_=>[])):=(Mj.out.more WI).ext dK.out;have Jv:Hid (aG (λq=>(M q\/q=gt)\/q=g12) w4 4 x a):=(nJ.out.more WI).ext dK.out;have Cb:Hid (aG (λq=>(M q\/q=gt)\/q=g12) w4 4 y b):=(uH.out.more WI).ext dK.out;have jl:Hid (Ext w w4):=aP.out.trans dK.out;obtain⟨⟨x0,x1,x2,x3⟩,y0,y1,y2,y3⟩:P4 w4 g0 x/\P4 w4 (g0+1) y:=⟨Mv.out.1.ext dK.out,Mv.out.2.ext dK.out⟩;have qag:Hid (rW g0 x y w4):=rW.ext Mv.out dK.out;obtain⟨M',sj⟩:∃M':Nat->Prop,M'=λq=>(M q\/q=gt)\/q=g12:=⟨_,rfl⟩;rw[<-sj]at Mi Jd Ev Jv Cb
 have L9:Hid (M' gt/\M' g12/\(∀q,M q->M' q)/\∀q,M' q->M q\/w.heap.size<=q):=by
  rw[sj];exact⟨.inl (.inr rfl),.inr rfl,λq hq=>.inl (.inl hq),λq hq=>hq.elim (λh=>h.imp id λe=>by have:=FU.out;omega) λe=>.inr (by have:=pz.out.1;omega)⟩
 clear hv e3 HU aZ hmw gN eZ qdP VL hV hm4 uh WI sj Mv qU Mj nJ uH aP dK mJ HLD P7;have HD:Hid (Ext w w4.drew):=jl.out.trans (ai _).drew;have fV:Hid (Ext w4 w4.drew):=(ai _).drew;clear x0 x1 x2 x3 y0 y1 y2 y3
 go_upto_region 3 with(fail)
 rw[xm.out, <-qhm.out];clear xm qhm;generalize Xc:w4.drew=wD at*
 go_cut [13,14] (qr2 M' y b r wD)
 case first=>
  have BO:Hid (Mb M' wD):=Jd.out.ext fV.out;have zZ:Hid (rW g0 x y wD):=qag.out.ext fV.out;have Ga:Hid (aG M' wD 4 x a):=Jv.out.ext fV.out;have Qr:Hid (aG M' wD 4 y b):=Cb.out.ext fV.out;have C1:Hid (∀A B W',S9 M' wD W' A B->Calls Tryz.prog 147 #[.agg (ag x),.agg (ag y),.int .i64 (J:Int)] W' (di (M9 M' A B) W' 4 r)):=λA B W' h=>HRM.out (M9 M' A B) W' x y h.mb ((Ga.out.more h.sub).ext h.e) ((Qr.out.more h.sub).ext h.e);have S0:=S9.start BO.out;refine fB (rW g0 x y) 9 (by rw[Xc];exact zZ.out) λhHeld=>?_;rw[Xc]at hHeld⊢;clear zZ fV jl HD Xc BO Jv Cb qag Ev Mi Jd qad L9 Ga FU pz HRM;generalize wD=wd at*;refine bH [0,1,2,3] ?_;(iterate 4 refine bG ?_);refine bI ?_;have SX:=S0;clear S0;(refine qEE 4 5 6 (oi:=?_) (oj:=?_) (ok:=?_) (by kernel_rfl) ?_ ?_ ?_ ?_ ?_ ?_;rotate_left 3;(simp only[sO,sP,sQ];rfl);(simp only[sO,sP,sQ];rfl);(simp only[sO,sP,sQ];rfl);all_goals intro K hK)
  all_goals(first|(go_simp;refine(C1.out _ _ _ SX).mono ?_;rintro e v ⟨z,rfl,hz,D⟩;go_wp2_with (fail);replace SX:=SX.call D;clear D;(try clear ak);refine ny hK (hHeld.ext SX.e) λak=>?_;clear hK K)|(go_simp;(first|obtain⟨v,g,hv,hg,SX,aT⟩:=SX.qfa|obtain⟨v,g,hv,hg,SX,aT⟩:=SX.qfb);(try replace hz:=aT _ _ hz);rw[hv,hg];clear hv hg aT;(try clear ak);refine ny hK (hHeld.ext SX.e) λak=>?_;clear hK K))
  focus(refine oC 5 6 ?_ ?_<;>intro K hK)
  rotate_left 2
  focus(refine oC 4 6 ?_ ?_<;>intro K hK)
  rotate_left 2
  focus(refine oC 4 5 ?_ ?_<;>intro K hK)
  all_goals(first|(go_simp;refine(C1.out _ _ _ SX).mono ?_;rintro e v ⟨z,rfl,hz,D⟩;go_wp2_with (fail);replace SX:=SX.call D;clear D;(try clear ak);refine ny hK (hHeld.ext SX.e) λak=>?_;clear hK K)|(go_simp;(first|obtain⟨v,g,hv,hg,SX,aT⟩:=SX.qfa|obtain⟨v,g,hv,hg,SX,aT⟩:=SX.qfb);(try replace hz:=aT _ _ hz);rw[hv,hg];clear hv hg aT;(try clear ak);refine ny hK (hHeld.ext SX.e) λak=>?_;clear hK K))
  focus(refine aI 5 λK hK=>?_)
  rotate_left
  focus(refine aI 4 λK hK=>?_)
  rotate_left
  focus(refine aI 6 λK hK=>?_)
  rotate_left
  focus(refine aI 5 λK hK=>?_)
  rotate_left
  focus(refine aI 6 λK hK=>?_)
  rotate_left
  focus(refine aI 4 λK hK=>?_)
  all_goals(first|(go_simp;refine(C1.out _ _ _ SX).mono ?_;rintro e v ⟨z,rfl,hz,D⟩;go_wp2_with (fail);replace SX:=SX.call D;clear D;(try clear ak);refine ny hK (hHeld.ext SX.e) λak=>?_;clear hK K)|(go_simp;(first|obtain⟨v,g,hv,hg,SX,aT⟩:=SX.qfa|obtain⟨v,g,hv,hg,SX,aT⟩:=SX.qfb);(try replace hz:=aT _ _ hz);rw[hv,hg];clear hv hg aT;(try clear ak);refine ny hK (hHeld.ext SX.e) λak=>?_;clear hK K))
  all_goals(first|(obtain⟨W1,hW1,⟨q0,q1,q2,q3⟩,⟨f0,f1,f2,f3⟩,E1,⟨r0,r1,r2,r3⟩,⟨k0,k1,k2,k3⟩,W2,gT,dG⟩:=SX.qqp Qr.out hz;unfold aD at hW1 gT;have iG:=hHeld.ext E1;have Aq:=hHeld.ext dG.e;clear ak;(refine aI 7 λK hK=>?_);go_simp;rw[<-hW1];clear hW1;refine nx hK iG ?_;clear hK K q0 q1 q2 q3 f0 f1 f2 f3;(refine aI 8 λK hK=>?_);go_simp;rw[<-gT];clear gT;refine nx hK Aq ?_;clear hK K r0 r1 r2 r3 k0 k1 k2 k3;refine kP ?_;go_wp2_with (fail);go_meet;exact⟨_,_,z,rfl,rfl,dG⟩)|(obtain⟨W1,hW1,⟨q0,q1,q2,q3⟩,⟨f0,f1,f2,f3⟩,E1,⟨r0,r1,r2,r3⟩,⟨k0,k1,k2,k3⟩,W2,gT,dG⟩:=SX.swap.qqp Qr.out hz.qDT;unfold aD at hW1 gT;have iG:=hHeld.ext E1;have Aq:=hHeld.ext dG.e;clear ak;(refine aI 7 λK hK=>?_);go_simp;rw[<-hW1];clear hW1;refine nx hK iG ?_;clear hK K q0 q1 q2 q3 f0 f1 f2 f3;(refine aI 8 λK hK=>?_);go_simp;rw[<-gT];clear gT;refine nx hK Aq ?_;clear hK K r0 r1 r2 r3 k0 k1 k2 k3;refine kP ?_;go_wp2_with (fail);go_meet;exact⟨_,_,z,rfl,rfl,dG⟩))
 case rest=>
  obtain⟨g13,g14,zz,rfl,rfl,rD⟩:=hcut;have I7:Hid (Ext w4 wc):=fV.out.trans rD.e
  have gP:∀q,q<w4.heap.size->q≠g13/\q≠g14:=λq hq=>by
   have h1:=fV.out.size;have h2:=rD.la;have h3:=rD.lb;constructor<;>omega
  have nC:Hid (O9 w gt g12 g13 g14):=⟨⟨pz.out.2,(gP gt Ev.out.lt).1,(gP gt Ev.out.lt).2,(gP g12 Mi.out.lt).1,(gP g12 Mi.out.lt).2,λe=>rD.ne e.symm⟩,by have:=FU.out;omega,pz.out.1,aK HD.out.size rD.la,aK HD.out.size rD.lb⟩
  have uh:∀q,M9 M' (some g13) (some g14) q->M' q\/w4.heap.size<=q:=λq hq=>hq.imp id λh=>by
   have h1:=fV.out.size;have h2:=rD.la;have h3:=rD.lb;rcases h with h|h<;>cases h<;>omega
  have qh9:Hid (∃k,O8 M w J n gt g12 g13 g14 F wc k):=⟨fuel,M9 M' (some g13) (some g14),b,r,s,λ_=>[],y,zz,v,⟨rD.A,rD.B,(Mi.out.more uh).ext I7.out,(Ev.out.more uh).ext I7.out,rD.m,jl.out.trans I7.out,λq hq=>.inl (L9.out.2.2.1 q hq),λq hq=>(uh q hq).elim (L9.out.2.2.2 q) λh=>.inr (aK jl.out.size h),.inl L9.out.1,.inl L9.out.2.1,.inr (.inl rfl),.inr (.inr rfl)⟩,qad.out⟩;clear rD gP uh I7 HD fV jl Jv Cb qag Ev Mi Jd qad L9 FU pz HRM Xc;go_wp2
  go_loopw [15] (λ_ wr=>∃k,O8 M w J n gt g12 g13 g14 F wr k) (λ_ wr=>XD (O8 M w J n gt g12 g13 g14 F wr))
  case atStart=>exact qh9.out
  case round=>
   clear qh9;obtain⟨k0,iq⟩:=hrel;have kU:=(qo2 iq).1;obtain⟨kk,hke⟩:∃kk,kk=XD (O8 M w J n gt g12 g13 g14 F wr):=⟨_,rfl⟩;rw[<-hke]at kU;have zV:=ae hke;clear iq hke
   cases kk with
   |zero=>
    obtain⟨_,_,_,_,_,_,_,_,_,h⟩:=kU;exact h.elim
   |succ k=>
    obtain⟨MW,a,b,s,L,za,zb,zs,iw,d,Di,hd1,og,hcs⟩:=kU
    obtain⟨z,GX,hz⟩:∃z:Int,FL J b z/\((z= -1/\∀i,i<n->af (L i) (F i))\/∃(dn e:Nat)(c:List Tm)(L':Nat->List Tm),z=(e:Int)/\d=(dn:Int)/\e<dn/\dn<=n/\CPh J b s (dn-e) e (zG L (dn-1) b) L' c/\
     ((e=0/\∀i,i<n->af (L' i) (F i))\/(0<e/\∃s1 la dv r b' s',JF s (dn-e) s1/\Gf J a la/\JD s1 la dv/\JI J a b r/\JG r dv b'/\Gf J c s'/\LG J n F k c b' s' L'))):=by
     rcases hcs with⟨h1,h2⟩|⟨dn,e,c,L',h1,h2,h3⟩
     ·exact⟨-1,h1,.inl ⟨rfl,h2⟩⟩
     ·exact⟨(e:Int),h2,.inr ⟨dn,e,c,L',rfl,h1,h3⟩⟩
    have kR:=ae iw;have HZ:=ae hz;have tC:Hid (-1<=d/\d<=1000):=⟨hd1,og⟩;have pF:Hid (uL g13 g14 za zb wr.drew):=uL.ext ⟨iw.A.b.p4,iw.B.b.p4⟩ (ai _).drew;have C2:Hid (∀wk,Ext wr.drew wk->Calls Tryz.prog 14 #[.agg (ag za),.int .i64 (J:Int)] wk λe w'=>e=.returned (.int .i64 d)/\Ext wk w'):=λwk he=>Di MW wk za (iw.m.ext ((ai _).drew.trans he)) (iw.A.x.ext ((ai _).drew.trans he));have C5:Hid (∀wk,Ext wr.drew wk->Calls Tryz.prog 14 #[.agg (ag zb),.int .i64 (J:Int)] wk λe w'=>e=.returned (.int .i64 z)/\Ext wk w'):=λwk he=>GX MW wk zb (iw.m.ext ((ai _).drew.trans he)) (iw.B.x.ext ((ai _).drew.trans he));have lT:Hid (Ext wr wr.drew):=(ai _).drew;clear iw hz hd1 og hcs Di GX
    go_upto_region 4 with(fail)
    refine fB (uL g13 g14 za zb) 8 pF.out λhHeld=>?_;obtain⟨wo,hwo⟩:∃wo,wo=wr:=⟨_,rfl⟩;generalize wr.drew=wd at*;refine bH [0,1,3,4] ?_;(iterate 4 refine bG ?_);refine bI ?_
    (refine aI 2 λK hK=>?_);go_simp;(refine(C2.out wd (ai _)).mono ?_);rintro e_ w5 ⟨rfl,e2⟩;go_wp2_with (fail);(try clear ak);(refine ny hK (hHeld.ext e2) λak=>?_);clear hK K
    (refine aI 5 λK hK=>?_);go_simp;(refine(C5.out w5 e2).mono ?_);rintro e_ w6 ⟨rfl,e5⟩;go_wp2_with (fail);(try clear ak);(refine ny hK (hHeld.ext (e2.trans e5)) λak=>?_);clear hK K
    refine bH [6,7] ?_;(iterate 2 refine bG ?_);refine bI ?_;refine kP ?_;have Jo:=ae (kR.out.ext (lT.out.trans (e2.trans e5)));clear hHeld ak e2 e5 pF C2 C5 lT kR hwo;rcases HZ.out with⟨rfl,hF⟩|⟨dn,e,c,L',rfl,rfl,uV,oQ,uU,qdN⟩
    ·have HF:Hid (JH M w n F (.returned (.slice (some ⟨gt,0,none⟩) n n)) w6):=Jo.out.ret nC.out.2.1 hF;clear hF Jo HZ tC zV nC yo;go_wp2;go_ret;exact HF.out
    ·obtain⟨D,hD⟩:∃D,dn=D+1:=⟨dn-1,by omega⟩;have Uk:Hid (D<n/\dn=D+1):=⟨by omega,hD⟩
     have hDn:(D:Int)<(n:Int):=by omega
     have uQ:(0:Int)<=(D:Int):=jE _;have wu:(0:Int)<=(e:Int):=jE _
     have hwr:IntKind.i64.wrap ((dn:Int)-1)=(D:Int):=by rw[IntWalk.i64_in _ (by omega)];omega
     obtain⟨G,hG⟩:∃G,G=dn-e:=⟨_,rfl⟩
     have hwg:IntKind.i64.wrap ((dn:Int)-(e:Int))=(G:Int):=by rw[IntWalk.i64_in _ (by omega)];omega
     have oG:Hid (1<=G/\G<=100/\e<n):=⟨by omega,by omega,by omega⟩;rw[<-hG]at uU qdN
     have yP:dn-1=D:=by omega
     rw[yP]at uU;have Uf:=ae uU;have Pz:=ae qdN;clear uU qdN hG yP uV oQ hD HZ tC;obtain⟨⟨_,q0⟩,⟨_,q1⟩,⟨_,q2⟩,⟨_,q3⟩,dX,_⟩:=Jo.out.L.at D Uk.out.1;have f0:=dX (D*4);have f1:=dX (D*4+1);have f2:=dX (D*4+2);have f3:=dX (D*4+3);have qey:=Jo.out.list nC.out Uk.out.1 Jo.out.B.x;obtain⟨W7,GN⟩:∃W7,W7=aD w6 gt (D*4) (.int .i64 zb.lv) (.bool zb.b) (.slice zb.a zb.n zb.p) (.slice zb.ka zb.kn zb.kp):=⟨_,rfl⟩;rw[<-GN]at qey;unfold aD at GN;have HW7:=ae GN;have Es:=ae qey;clear qey GN dX;obtain⟨B0,B1,B2,B3⟩:=Jo.out.B.b.p4;clear Jo
     go_upto_region 8 with(fail)
     try rw[<-HW7.out]
     clear HW7 q0 q1 q2 q3 f0 f1 f2 f3 B0 B1 B2 B3;obtain⟨b0,b1,b2,b3⟩:=Es.out.B.b.p4;have eZ:=(ai W7).alloc (.cells (ag zb) 42);have Q8:au (W7.alloc (.cells (ag zb) 42)) W7.heap.size 42 4 (arr (ag zb)):=au.aO W7 (ag zb) 42 4 rfl;obtain⟨W8,Aw⟩:∃W8,W8=W7.alloc (.cells #[.int .i64 zb.lv,.bool zb.b,.slice zb.a zb.n zb.p,.slice zb.ka zb.kn zb.kp] 42):=⟨_,rfl⟩;have hWP:W7.alloc (.cells (ag zb) 42)=W8:=Aw.symm;rw[hWP]at eZ Q8;have qez:=Es.out.more eZ (g:=W7.heap.size) (aA _) Q8.lt;have hx8:aG (λq=>MW q\/q=W7.heap.size) W8 4 zb b:=(Es.out.B.x.more λq hq=>hq.imp id λh=>by omega).ext eZ;have wW:Hid (W7.heap.size≠gt/\W7.heap.size≠g12/\W7.heap.size≠g13/\W7.heap.size≠g14/\w.heap.size<=W7.heap.size):=⟨by have:=Es.out.L.lt;omega,by have:=Es.out.S.lt;omega,by have:=Es.out.A.lt;omega,by have:=Es.out.B.lt;omega,Es.out.e.size⟩;have Qp:=ae Aw;obtain⟨g17,qdQ⟩:∃g17,g17=W7.heap.size:=⟨_,rfl⟩;rw[<-qdQ]at qez hx8 Q8 wW;have qhn:=ae qdQ;have Et:=ae qez;have IV:Hid (nk (λq=>MW q\/q=g17) W8 g17 zb b):=⟨Q8,hx8⟩;have jm:Hid ((λq=>MW q\/q=g17) g17):=.inr rfl;obtain⟨MX,hMX⟩:∃MX:Nat->Prop,MX=λq=>MW q\/q=g17:=⟨_,rfl⟩;rw[<-hMX]at Et IV jm;clear Aw qdQ qez hx8 Q8 eZ hWP hMX Es
     go_upto_if 53 with(fail)
     rw[<-Qp.out, <-qhn.out];clear Qp qhn b0 b1 b2 b3
     go_cut [17] (λs17 wx=>s17=.pointer (some ⟨g17,0,none⟩)/\YI M w n gt g12 g13 g14 g17 a b s c L' za zb zs wx)
     case first=>
      rcases Uf.out with⟨wB,rfl,rfl⟩|⟨wB,rfl,lb,p,c0,qq,oh,hp,lY,hqq,hqo⟩
      ·have Ak:¬1<(G:Int):=by omega
       have HF:Hid (YI M w n gt g12 g13 g14 g17 a c s c (zG L D c) za zb zs W8):=⟨MX,zb,Et.out,IV.out,jm.out⟩;clear Uf Pz Et IV jm zV wW nC yo wB;go_wp2
       go_meet
       exact⟨rfl,HF.out⟩
      ·have Ak:1<(G:Int):=by omega
       have qGV:IntKind.i64.wrap ((G:Int)-1)=((G-1:Nat):Int):=by have:=oG.out;rw[IntWalk.i64_in _ (by omega)];omega
       have HLB:=ae oh;have HP:=ae hp;have wR:=ae lY;have HQQ:=ae hqq;have HQO:=ae hqo;clear oh hp lY hqq hqo wB Uf
       go_upto_region 10 with(fail)
       have lT:Hid (Ext W8 W8.drew):=(ai _).drew;have pF:Hid (uL g14 g17 zb zb W8.drew):=uL.ext ⟨Et.out.B.b.p4,IV.out.b.p4⟩ (ai _).drew;have BL:=ae Et.out.m;have Ms:=ae Et.out.B.x;have C2:Hid (∀wk,Ext W8.drew wk->Calls Tryz.prog 66 #[.agg (ag zb),.int .i64 (J:Int)] wk (di MX wk 4 lb)):=λwk he=>HLB.out MX wk zb (BL.out.ext ((ai _).drew.trans he)) (Ms.out.ext ((ai _).drew.trans he));have C5:Hid (∀wk u,Ext W8.drew wk->aG MX wk 4 u lb->Calls Tryz.prog 23 #[.agg (ag u),.int .i64 ((G-1:Nat):Int)] wk (di MX wk 4 p)):=λwk u he hu=>HP.out MX wk u (BL.out.ext ((ai _).drew.trans he)) hu;have C7:Hid (∀wk u,Ext W8.drew wk->aG MX wk 4 u p->Calls Tryz.prog 24 #[.agg (ag u),.agg (ag zb)] wk (di MX wk 4 c0)):=λwk u he hu=>wR.out MX wk u zb (BL.out.ext ((ai _).drew.trans he)) hu (Ms.out.ext ((ai _).drew.trans he));refine fB (uL g14 g17 zb zb) 8 pF.out λhHeld=>?_;generalize W8.drew=wd at*;refine bH [0,1,3,4,6] ?_;(iterate 5 refine bG ?_);refine bI ?_
       (refine aI 2 λK hK=>?_);go_simp;(refine(C2.out wd (ai _)).mono ?_);rintro e_ w9 ⟨u,rfl,hu,e2⟩;go_wp2_with (fail);(try clear ak);(refine ny hK (hHeld.ext e2) λak=>?_);clear hK K
       (refine aI 5 λK hK=>?_);go_simp;(refine(C5.out w9 u e2 hu).mono ?_);rintro e_ BA ⟨v2,rfl,hv2,e5⟩;go_wp2_with (fail);(try clear ak);(refine ny hK (hHeld.ext (e2.trans e5)) λak=>?_);clear hK K
       (refine aI 7 λK hK=>?_);go_simp;(refine(C7.out BA v2 (e2.trans e5) hv2).mono ?_);rintro e_ w11 ⟨v3,rfl,Sl,e7⟩;go_wp2_with (fail);(try clear ak);(refine ny hK (hHeld.ext ((e2.trans e5).trans e7)) λak=>?_);clear hK K
       have yR:=lT.out.trans ((e2.trans e5).trans e7);have Bc:=Et.out.ext yR;have xK:=IV.out.ext yR;have zh:=Bc.beside jm.out wW.out v3;have Kr:=xK.put jm.out Sl;obtain⟨q0,q1,q2,q3⟩:=xK.b.p4;have dX:=xK.b.frozen;have f0:=dX 0;have f1:=dX 1;have f2:=dX 2;have f3:=dX 3;obtain⟨yG,ET⟩:∃yG,yG=aD w11 g17 0 (.int .i64 v3.lv) (.bool v3.b) (.slice v3.a v3.n v3.p) (.slice v3.ka v3.kn v3.kp):=⟨_,rfl⟩;rw[<-ET]at zh Kr;unfold aD at ET;have Qn:=ae ET;have BU:=ae zh;have TW:=ae Kr;clear yR Bc xK zh Kr ET dX hu hv2 Sl e2 e5 e7 C2 C5 C7 pF Ms BL lT Et IV;refine aI 8 λK hK=>?_;go_simp;rw[<-Qn.out];refine fz hK ?_;clear hK K Qn q0 q1 q2 q3 f0 f1 f2 f3 ak;clear hHeld;have lT:Hid (Ext yG yG.drew):=(ai _).drew;have pF:Hid (uL g17 g12 v3 zs yG.drew):=uL.ext ⟨TW.out.b.p4,BU.out.S.b.p4⟩ (ai _).drew;have BL:=ae BU.out.m;have Mt:=ae BU.out.S.x;have Ey:=ae TW.out.x;have C4:Hid (∀wk,Ext yG.drew wk->Calls Tryz.prog 23 #[.agg (ag zs),.int .i64 ((G-1:Nat):Int)] wk (di MX wk 4 qq)):=λwk he=>HQQ.out MX wk zs (BL.out.ext ((ai _).drew.trans he)) (Mt.out.ext ((ai _).drew.trans he));have C5:Hid (∀wk u,Ext yG.drew wk->aG MX wk 4 u qq->Calls Tryz.prog 148 #[.agg (ag v3),.agg (ag u)] wk (di MX wk 4 c)):=λwk u he hu=>HQO.out MX wk v3 u (BL.out.ext ((ai _).drew.trans he)) (Ey.out.ext ((ai _).drew.trans he)) hu
       go_upto_region 11 with(fail)
       refine fB (uL g17 g12 v3 zs) 6 pF.out λhHeld=>?_;generalize yG.drew=wd at*;refine bH [0,1,2,3] ?_;(iterate 4 refine bG ?_);refine bI ?_
       (refine aI 4 λK hK=>?_);go_simp;(refine(C4.out wd (ai _)).mono ?_);rintro e_ w9 ⟨u,rfl,hu,e2⟩;go_wp2_with (fail);(try clear ak);(refine ny hK (hHeld.ext e2) λak=>?_);clear hK K
       (refine aI 5 λK hK=>?_);go_simp;(refine(C5.out w9 u e2 hu).mono ?_);rintro e_ BA ⟨v4,rfl,Sm,e5⟩;go_wp2_with (fail);(try clear ak);(refine ny hK (hHeld.ext (e2.trans e5)) λak=>?_);clear hK K
       have yR:=lT.out.trans (e2.trans e5);have Bc:=BU.out.ext yR;have xK:=TW.out.ext yR;have zh:=Bc.beside jm.out wW.out v4;have Kr:=xK.put jm.out Sm;obtain⟨q0,q1,q2,q3⟩:=xK.b.p4;have dX:=xK.b.frozen;have f0:=dX 0;have f1:=dX 1;have f2:=dX 2;have f3:=dX 3;obtain⟨Gl,EU⟩:∃Gl,Gl=aD BA g17 0 (.int .i64 v4.lv) (.bool v4.b) (.slice v4.a v4.n v4.p) (.slice v4.ka v4.kn v4.kp):=⟨_,rfl⟩;rw[<-EU]at zh Kr;unfold aD at EU;have Qo:=ae EU;have BV:=ae zh;have TY:=ae Kr;clear yR Bc xK zh Kr EU dX hu Sm e2 e5 C4 C5 pF Mt Ey BL lT BU TW;refine aI 6 λK hK=>?_;go_simp;rw[<-Qo.out];refine fz hK ?_;clear hK K Qo q0 q1 q2 q3 f0 f1 f2 f3 ak;clear hHeld
       have AO:(e:Int)<(n:Int):=by have:=oG.out;omega
       obtain⟨⟨_,q0⟩,⟨_,q1⟩,⟨_,q2⟩,⟨_,q3⟩,dX,_⟩:=BV.out.L.at e oG.out.2.2;have f0:=dX (e*4);have f1:=dX (e*4+1);have f2:=dX (e*4+2);have f3:=dX (e*4+3);have H7:=BV.out.list nC.out oG.out.2.2 TY.out.x;have qmR:=fD Gl gt (e*4) (.int .i64 v4.lv) (.bool v4.b) (.slice v4.a v4.n v4.p) (.slice v4.ka v4.kn v4.kp) g17 wW.out.1;have qdr:=TY.out.other (Kp.aD BV.out.mt (e*4) (.int .i64 v4.lv) (.bool v4.b) (.slice v4.a v4.n v4.p) (.slice v4.ka v4.kn v4.kp)) qmR;obtain⟨W14,V6⟩:∃W14,W14=aD Gl gt (e*4) (.int .i64 v4.lv) (.bool v4.b) (.slice v4.a v4.n v4.p) (.slice v4.ka v4.kn v4.kp):=⟨_,rfl⟩;rw[<-V6]at H7 qdr;unfold aD at V6;have qiw:=ae V6;have HF:Hid (YI M w n gt g12 g13 g14 g17 a b s c (zG (zG L D b) e c) za zb zs W14):=⟨MX,v4,H7,qdr,jm.out⟩;obtain⟨C0,C1,C2,C3⟩:=TY.out.b.p4;clear H7 qdr qmR V6 dX BV TY Pz zV wW nC yo jm HLB HP wR HQQ HQO;go_wp2;rw[<-qiw.out];clear qiw q0 q1 q2 q3 f0 f1 f2 f3 C0 C1 C2 C3
       go_meet
       exact⟨rfl,HF.out⟩
     case rest=>
      obtain⟨wo,rfl⟩:∃wo,wo=wc:=⟨_,rfl⟩;obtain⟨rfl,MX,zc,qnW,hb9,qnm⟩:=hcut;have yu:=ae qnW;have Pk:=ae hb9;have qhO:=ae qnm;clear qnW hb9 qnm Uf Et IV jm;rcases Pz.out with⟨rfl,hF⟩|⟨he,s1,la,dv,r9,b',s',dI,AX,xM,KV,hb',lD,hrun⟩
      ·have HF:Hid (JH M w n F (.returned (.slice (some ⟨gt,0,none⟩) n n)) wo):=yu.out.ret nC.out.2.1 hF;clear hF yu Pk Pz zV nC yo oG;go_wp2;go_ret;exact HF.out
      ·have j5:=ae dI;have L8:=ae AX;have jQ:=ae xM;have Z8:=ae KV;have Y5:=ae hb';have Jm:=ae lD;have HRQ:=ae hrun
       have qnw:¬(e:Int)=0:=by omega
       have qGy:((e:Int)==0)=false:=beq_eq_false_iff_ne.2 qnw;clear dI AX xM KV hb' lD hrun Pz he
       go_upto_region 15 with(fail)
       have dQ:=ae yu.out.m;have Mr:=ae yu.out.A.x;have Mt:=ae yu.out.S.x;have lT:Hid (Ext wo wo.drew):=(ai _).drew
       go_cut [19] (qr0 MX dv wo.drew)
       case first=>
        have pF:Hid (uL g12 g13 zs za wo.drew):=uL.ext ⟨yu.out.S.b.p4,yu.out.A.b.p4⟩ lT.out;have S0:S9 MX wo.drew wo.drew none none:=S9.start (dQ.out.ext lT.out);have C2:Hid (∀A B W',S9 MX wo.drew W' A B->Calls Tryz.prog 23 #[.agg (ag zs),.int .i64 (G:Int)] W' (di (M9 MX A B) W' 4 s1)):=λA B W' h=>j5.out (M9 MX A B) W' zs h.mb (((Mt.out.ext lT.out).more h.sub).ext h.e);have C5:Hid (∀A B W',S9 MX wo.drew W' A B->Calls Tryz.prog 66 #[.agg (ag za),.int .i64 (J:Int)] W' (di (M9 MX A B) W' 4 la)):=λA B W' h=>L8.out (M9 MX A B) W' za h.mb (((Mr.out.ext lT.out).more h.sub).ext h.e);have C6:Hid (∀A B W',S9 MX wo.drew W' A B->∀p:PE,aG (M9 MX A B) W' 4 p s1->∀q:PE,aG (M9 MX A B) W' 4 q la->Calls Tryz.prog 24 #[.agg (ag p),.agg (ag q)] W' (di (M9 MX A B) W' 4 dv)):=λA B W' h p hp q hq=>jQ.out (M9 MX A B) W' p q h.mb hp hq;refine fB (uL g12 g13 zs za) 9 pF.out λhHeld=>?_;clear yu Pk qhO dQ Mr Mt pF j5 L8 jQ Z8 Y5 Jm HRQ zV wW nC yo oG Uk qnw;generalize wo.drew=wd at*;refine bH [0,1,3,4] ?_;(iterate 4 refine bG ?_);refine bI ?_;refine oC 2 7 ?_ ?_<;>intro K hK
        ·go_simp;refine(C2.out _ _ wd S0).mono ?_;rintro e v1 ⟨p,rfl,hp,D⟩;go_wp2_with (fail);have S1:=S0.call D;clear D
         try clear ak
         refine ny hK (hHeld.ext S1.e) λak=>?_;clear hK K;refine oC 5 7 ?_ ?_<;>intro K hK
         ·go_simp;refine(C5.out _ _ v1 S1).mono ?_;rintro e v2 ⟨q,rfl,hq,D⟩;go_wp2_with (fail);have S2:=S1.call D;replace hp:=hp.ext D;clear D
          try clear ak
          refine ny hK (hHeld.ext S2.e) λak=>?_;clear hK K;refine oC 6 7 ?_ ?_<;>intro K hK
          ·go_simp;refine(C6.out _ _ v2 S2 _ hp _ hq).mono ?_;rintro e v3 ⟨v,rfl,hv,D⟩;go_wp2_with (fail);have S3:=S2.call D;replace hp:=hp.ext D;replace hq:=hq.ext D;clear D
           try clear ak
           refine ny hK (hHeld.ext S3.e) λak=>?_;clear hK K;refine aI 7 λK hK=>?_;go_simp;have S4:=S3.uM;replace hp:=S3.lN hp;replace hq:=S3.lN hq;replace hv:=S3.lN hv
           try clear ak
           refine ny hK (hHeld.ext S4.e) λak=>?_;clear hK K;generalize v3.alloc (.cells zA 42)=v4 at*;generalize v3.heap.size=g4 at*;obtain⟨W1,hW1,⟨q0,q1,q2,q3⟩,⟨f0,f1,f2,f3⟩,dG⟩:=S4.Bv hv;unfold aD at hW1;have iG:=hHeld.ext dG.e;clear ak;refine aI 8 λK hK=>?_;go_simp;rw[<-hW1];clear hW1;refine nx hK iG ?_;clear hK K q0 q1 q2 q3 f0 f1 f2 f3;refine kP ?_;go_wp2_with (fail)
           go_meet
           exact⟨_,_,rfl,dG⟩
          ·go_simp;have S5:=S2.uM;replace hp:=S2.lN hp;replace hq:=S2.lN hq
           try clear ak
           refine ny hK (hHeld.ext S5.e) λak=>?_;clear hK K;generalize v2.alloc (.cells zA 42)=v5 at*;generalize v2.heap.size=g5 at*;refine aI 6 λK hK=>?_;go_simp;refine(C6.out _ _ v5 S5 _ hp _ hq).mono ?_;rintro e v6 ⟨v,rfl,hv,D⟩;go_wp2_with (fail);have S6:=S5.call D;replace hp:=hp.ext D;replace hq:=hq.ext D;clear D
           try clear ak
           refine ny hK (hHeld.ext S6.e) λak=>?_;clear hK K;obtain⟨W1,hW1,⟨q0,q1,q2,q3⟩,⟨f0,f1,f2,f3⟩,dG⟩:=S6.Bv hv;unfold aD at hW1;have iG:=hHeld.ext dG.e;clear ak;refine aI 8 λK hK=>?_;go_simp;rw[<-hW1];clear hW1;refine nx hK iG ?_;clear hK K q0 q1 q2 q3 f0 f1 f2 f3;refine kP ?_;go_wp2_with (fail)
           go_meet
           exact⟨_,_,rfl,dG⟩
         ·go_simp;have S7:=S1.uM;replace hp:=S1.lN hp
          try clear ak
          refine ny hK (hHeld.ext S7.e) λak=>?_;clear hK K;generalize v1.alloc (.cells zA 42)=v7 at*;generalize v1.heap.size=g7 at*;refine aI 5 λK hK=>?_;go_simp;refine(C5.out _ _ v7 S7).mono ?_;rintro e v8 ⟨q,rfl,hq,D⟩;go_wp2_with (fail);have S8:=S7.call D;replace hp:=hp.ext D;clear D
          try clear ak
          refine ny hK (hHeld.ext S8.e) λak=>?_;clear hK K;refine aI 6 λK hK=>?_;go_simp;refine(C6.out _ _ v8 S8 _ hp _ hq).mono ?_;rintro e v9 ⟨v,rfl,hv,D⟩;go_wp2_with (fail);have S9:=S8.call D;replace hp:=hp.ext D;replace hq:=hq.ext D;clear D
          try clear ak
          refine ny hK (hHeld.ext S9.e) λak=>?_;clear hK K;obtain⟨W1,hW1,⟨q0,q1,q2,q3⟩,⟨f0,f1,f2,f3⟩,dG⟩:=S9.Bv hv;unfold aD at hW1;have iG:=hHeld.ext dG.e;clear ak;refine aI 8 λK hK=>?_;go_simp;rw[<-hW1];clear hW1;refine nx hK iG ?_;clear hK K q0 q1 q2 q3 f0 f1 f2 f3;refine kP ?_;go_wp2_with (fail)
          go_meet
          exact⟨_,_,rfl,dG⟩
        ·go_simp;have oI:=S0.uM
         try clear ak
         refine ny hK (hHeld.ext oI.e) λak=>?_;clear hK K;generalize wd.alloc (.cells zA 42)=v10 at*;generalize wd.heap.size=g10 at*;refine aI 2 λK hK=>?_;go_simp;refine(C2.out _ _ v10 oI).mono ?_;rintro e v11 ⟨p,rfl,hp,D⟩;go_wp2_with (fail);have EA:=oI.call D;clear D
         try clear ak
         refine ny hK (hHeld.ext EA.e) λak=>?_;clear hK K;refine aI 5 λK hK=>?_;go_simp;refine(C5.out _ _ v11 EA).mono ?_;rintro e v12 ⟨q,rfl,hq,D⟩;go_wp2_with (fail);have Gi:=EA.call D;replace hp:=hp.ext D;clear D
         try clear ak
         refine ny hK (hHeld.ext Gi.e) λak=>?_;clear hK K;refine aI 6 λK hK=>?_;go_simp;refine(C6.out _ _ v12 Gi _ hp _ hq).mono ?_;rintro e IK ⟨v,rfl,hv,D⟩;go_wp2_with (fail);have MK:=Gi.call D;replace hp:=hp.ext D;replace hq:=hq.ext D;clear D
         try clear ak
         refine ny hK (hHeld.ext MK.e) λak=>?_;clear hK K;obtain⟨W1,hW1,⟨q0,q1,q2,q3⟩,⟨f0,f1,f2,f3⟩,dG⟩:=MK.Bv hv;unfold aD at hW1;have iG:=hHeld.ext dG.e;clear ak;refine aI 8 λK hK=>?_;go_simp;rw[<-hW1];clear hW1;refine nx hK iG ?_;clear hK K q0 q1 q2 q3 f0 f1 f2 f3;refine kP ?_;go_wp2_with (fail)
         go_meet
         exact⟨_,_,rfl,dG⟩
       case rest=>
        obtain⟨g19,zv,rfl,rD⟩:=hcut;have hXW:Ext wo wc:=lT.out.trans rD.e;have Jn:=ae (yu.out.ext hXW);have YV:=ae (Pk.out.ext hXW);have ZQ:=ae rD.p;have qiA:=ae rD.x
        have qhQ:Hid (g19≠g13/\g19≠g14/\g19≠g17):=by
         have h1:=lT.out.size;have h2:=rD.f;have h3:=yu.out.A.lt;have h4:=yu.out.B.lt;have h5:=Pk.out.lt;exact⟨by omega,by omega,by omega⟩
        clear rD hXW yu Pk dQ Mr Mt lT j5 L8 jQ;have lT:Hid (Ext wc wc.drew):=(ai _).drew;have pF:Hid (JM g17 g14 g19 zc zb zv wc.drew):=JM.ext ⟨YV.out.b.p4,Jn.out.B.b.p4,ZQ.out⟩ (ai _).drew;have dQ:=ae Jn.out.m;have Mr:=ae Jn.out.A.x;have Ms:=ae Jn.out.B.x;have C4:Hid (∀wk,Ext wc.drew wk->Calls Tryz.prog 147 #[.agg (ag za),.agg (ag zb),.int .i64 (J:Int)] wk (di MX wk 4 r9)):=λwk he=>Z8.out MX wk za zb (dQ.out.ext (lT.out.trans he)) (Mr.out.ext (lT.out.trans he)) (Ms.out.ext (lT.out.trans he));have C6:Hid (∀wk u,Ext wc.drew wk->aG MX wk 4 u r9->Calls Tryz.prog 148 #[.agg (ag u),.agg (ag zv)] wk (di MX wk 4 b')):=λwk u he hu=>Y5.out MX wk u zv (dQ.out.ext (lT.out.trans he)) hu (qiA.out.ext (lT.out.trans he));have Pg:Hid (P4 wc.drew g13 za):=Jn.out.A.b.p4.ext lT.out;clear Mr Ms dQ Z8 Y5
        go_upto_region 16 with(fail)
        refine fB (JM g17 g14 g19 zc zb zv) 8 pF.out λhHeld=>?_;generalize wc.drew=wd at*;refine bH [0,2,3,5] ?_;(iterate 4 refine bG ?_);refine bI ?_;obtain⟨a0,a1,a2,a3⟩:=Pg.out;refine aI 1 λK hK=>?_;go_simp;refine nx hK hHeld ?_;clear hK K a0 a1 a2 a3 Pg
        (refine aI 4 λK hK=>?_);go_simp;(refine(C4.out wd (ai _)).mono ?_);rintro e_ w9 ⟨u,rfl,hu,e2⟩;go_wp2_with (fail);(try clear ak);(refine ny hK (hHeld.ext e2) λak=>?_);clear hK K
        (refine aI 6 λK hK=>?_);go_simp;(refine(C6.out w9 u e2 hu).mono ?_);rintro e_ BA ⟨v5,rfl,Xa,e5⟩;go_wp2_with (fail);(try clear ak);(refine ny hK (hHeld.ext (e2.trans e5)) λak=>?_);clear hK K
        have yR:=lT.out.trans (e2.trans e5);have Bc:=Jn.out.ext yR;have xK:=YV.out.ext yR;have zh:=Bc.qB3 nC.out xK.x;have qeC:=Xa.kp (Kp.aD Bc.m3 0 (.int .i64 zc.lv) (.bool zc.b) (.slice zc.a zc.n zc.p) (.slice zc.ka zc.kn zc.kp));have hh:=λq=>fD BA g13 0 (.int .i64 zc.lv) (.bool zc.b) (.slice zc.a zc.n zc.p) (.slice zc.ka zc.kn zc.kp) q;have qda:JM g17 g14 g19 zc zb zv (aD BA g13 0 (.int .i64 zc.lv) (.bool zc.b) (.slice zc.a zc.n zc.p) (.slice zc.ka zc.kn zc.kp)):=⟨p9 xK.b.p4 (hh g17 wW.out.2.2.1),zh.B.b.p4,p9 (ZQ.out.ext yR) (hh g19 qhQ.out.1)⟩;obtain⟨q0,q1,q2,q3⟩:=Bc.A.b.p4;have dX:=Bc.A.b.frozen;have f0:=dX 0;have f1:=dX 1;have f2:=dX 2;have f3:=dX 3;obtain⟨yG,ET⟩:∃yG,yG=aD BA g13 0 (.int .i64 zc.lv) (.bool zc.b) (.slice zc.a zc.n zc.p) (.slice zc.ka zc.kn zc.kp):=⟨_,rfl⟩;rw[<-ET]at zh qeC qda;unfold aD at ET;have Qn:=ae ET;have BU:=ae zh;have qit:=ae qeC;clear yR Bc xK zh qeC hh ET dX hu Xa e2 e5 C4 C6 pF lT Jn YV ZQ qiA;refine aI 7 λK hK=>?_;go_simp;rw[<-Qn.out];clear Qn q0 q1 q2 q3 f0 f1 f2 f3 ak;refine nx hK qda ?_;clear hK K;have qew:=BU.out.qB4 nC.out qit.out;obtain⟨q0,q1,q2,q3⟩:=BU.out.B.b.p4;have dX:=BU.out.B.b.frozen;have f0:=dX 0;have f1:=dX 1;have f2:=dX 2;have f3:=dX 3;obtain⟨Gl,EU⟩:∃Gl,Gl=aD yG g14 0 (.int .i64 v5.lv) (.bool v5.b) (.slice v5.a v5.n v5.p) (.slice v5.ka v5.kn v5.kp):=⟨_,rfl⟩
        rw[<-EU]at qew;unfold aD at EU;have Qo:=ae EU;have BV:=ae qew;clear qew EU dX BU qit;refine aI 8 λK hK=>?_;go_simp;rw[<-Qo.out];refine fz hK ?_;clear hK K Qo q0 q1 q2 q3 f0 f1 f2 f3 qda;clear hHeld;have C2:=ae (Jm.out MX Gl zc BV.out.m BV.out.A.x);obtain⟨q0,q1,q2,q3⟩:=BV.out.A.b.p4;go_wp2_with (fail);refine C2.out.mono ?_;rintro e9 w14 ⟨v6,rfl,H8,e6⟩;clear q0 q1 q2 q3;have H7:=BV.out.ext e6;have qex:=H7.qB6 nC.out H8;obtain⟨q0,q1,q2,q3⟩:=H7.S.b.p4;have dX:=H7.S.b.frozen;have f0:=dX 0;have f1:=dX 1;have f2:=dX 2;have f3:=dX 3;obtain⟨W15,V7⟩:∃W15,W15=aD w14 g12 0 (.int .i64 v6.lv) (.bool v6.b) (.slice v6.a v6.n v6.p) (.slice v6.ka v6.kn v6.kp):=⟨_,rfl⟩;rw[<-V7]at qex;unfold aD at V7;have qix:=ae V7;have Z7:Hid (O8 M w J n gt g12 g13 g14 F W15 k):=⟨MX,c,b',s',L',zc,v5,v6,qex,HRQ.out⟩;clear H7 qex V7 dX H8 e6 C2 BV HRQ Jm nC yo oG Uk qhO wW qhQ;go_wp2;rw[<-qix.out];clear qix q0 q1 q2 q3 f0 f1 f2 f3
        go_roundw
        case rel=>exact⟨k,Z7.out⟩
        case measure=>
         have h:=(qo2 Z7.out).2 k Z7.out;have:=zV.out;omega
theorem vQ(x:Nat->Int){l:List Tm}(h:NN l):ev x (cB l)= -ev x l:=by
 show ev x (aC l [(-1,Mo.zero)])=_;rw[jq x h (xV (-1)),J2,Int.mul_neg,Int.mul_one]
theorem quk{J:Nat}(h1:1<=J)(h4:J<=4)(e:Int)(l:List Tm):af (ck J e (cB l)) (cB (ck J e l)):=λm=>by
 rw[tL h1 h4,zt,zt,tL h1 h4]
 split
 ·rfl
 ·rfl
theorem ckP{J:Nat}(h1:1<=J)(h4:J<=4){P:Nat->List Tm}(hP:∀i,kQ J (P i))(e:Nat):∀N:Nat,af (ck J (e:Int) (aM J N P)) (if e<N then P e else[])
 |0=>λ_=>rfl
 |N+1=>λm=>by
  have ih:=ckP h1 h4 hP e N m;rw[tL h1 h4]at ih;rw[tL h1 h4,gF,iJ,xC]
  have key:m.get J=0->aH (P N) (Mo.sub (Mo.add m (xp J (e:Int))) (xp J (N:Int)))=if e=N then aH (P e) m else 0:=λh0=>by
   by_cases he:e=N
   ·subst he;rw[av rfl]
    congr 1
    exact((Mo.add_eq _ _ _).1 rfl).symm
   ·rw[aj he];refine gQ λhc=>?_;have:=hP N _ hc;rw[EI,iL,h0,gM J J _ h1 h4,gM J J _ h1 h4,av rfl,av rfl]at this;omega
  by_cases h0:m.get J=0
  ·rw[av h0]at ih⊢;rw[ih,key h0]
   by_cases he:e=N
   ·subst he;rw[aj (Nat.lt_irrefl _),av rfl,av (Nat.lt_succ_self _)];show 0+_=_;omega
   ·rw[aj he]
    by_cases hl:e<N
    ·rw[av hl,av (by omega)];omega
    ·rw[aj hl,aj (by omega)];rfl
  ·rw[aj h0]at ih⊢
   by_cases hl:e<N+1
   ·rw[av hl];refine(gQ λhc=>?_);exact h0 (hP e m λh=>hc h.symm)
   ·rw[aj hl];rfl
theorem qjK{J:Nat}(h1:1<=J)(h4:J<=4){l:List Tm}(nl:NN l){n:Nat}(h0:∀i:Nat,n<i->af (ck J (i:Int) l) [])(hn:n=0\/¬af (ck J (n:Int) l) []):dJ J l n:=by
 refine⟨λm hm=>?_,hn.imp id λh=>qbq h1 h4 h⟩
 have jH:m.nn=true:=by
  cases hq:m.nn with
  |true=>rfl
  |false=>exact absurd (nl m hq) hm
 have h5:=Bt jH J;refine gQ λhc=>?_;have h6:=h0 (m.get J).toNat (by omega);rw[show(((m.get J).toNat:Nat):Int)=m.get J by omega]at h6;exact Na h1 h4 hm h6
theorem qAP{J:Nat}(h1:1<=J)(h4:J<=4){l:List Tm}(nl:NN l)(h0:∀i:Nat,af (ck J (i:Int) l) []):af l []:=λm=>by
 refine gQ λhm=>?_
 have jH:m.nn=true:=by
  cases hq:m.nn with
  |true=>rfl
  |false=>exact absurd (nl m hq) hm
 have h5:=Bt jH J;have h6:=h0 (m.get J).toNat;rw[show(((m.get J).toNat:Nat):Int)=m.get J by omega]at h6;exact Na h1 h4 hm h6
theorem dJ.Vr{J n:Nat}(h1:1<=J)(h4:J<=4){l:List Tm}(h:dJ J l n)(hn:1<=n):¬af (ck J (n:Int) l) []:=by
 obtain⟨m,hm,e⟩:=h.2.resolve_left (by omega);rw[<-e];exact Na h1 h4 hm
structure Sz(B A:Nat)(l:List Tm):Prop where
 n:NN l
 d:bE B l
 a:aF (aB l)<=A
theorem Sz.ck{B A J:Nat}{l:List Tm}(h:Sz B A l)(h1:1<=J)(h4:J<=4)(e:Int):fU J B A (ck J e l):=qbA h1 h4 h.n h.d h.a e
theorem fU.sz{J B A:Nat}{l:List Tm}(h:fU J B A l):Sz B A l:=⟨h.1,h.2.2.1,h.2.2.2⟩
theorem JD.bP{a b c a' b' c':List Tm}(h:JD a b c)(ha:af a a')(hb:af b b')(hc:af c c'):JD a' b' c':=λM W x y hM hx hy=>(h M W x y hM (hx.bP ha.symm) (hy.bP hb.symm)).mono λ_ _ k=>k.bP hc
theorem JG.bP{a b c a' b' c':List Tm}(h:JG a b c)(ha:af a a')(hb:af b b')(hc:af c c'):JG a' b' c':=λM W x y hM hx hy=>(h M W x y hM (hx.bP ha.symm) (hy.bP hb.symm)).mono λ_ _ k=>k.bP hc
theorem JI.bP{J:Nat}{a b c a' b' c':List Tm}(h:JI J a b c)(ha:af a a')(hb:af b b')(hc:af c c'):JI J a' b' c':=λM W x y hM hx hy=>(h M W x y hM (hx.bP ha.symm) (hy.bP hb.symm)).mono λ_ _ k=>k.bP hc
theorem XC{J B A n:Nat}{a:List Tm}(h1:1<=J)(h4:J<=4)(h:Sz B A a)(hz:¬af a [])(hd:dJ J a n)(hB:B<=30)(hA:A<=95):Gf J a (ck J (n:Int) a):=λM W x hM hx=>
 qpe M x a J n B W h1 h4 h.n hz hd hM hx.pi h.d (aK (Nat.pow_le_pow_left (show B+1<=31 by omega) 4) (by decide)) (by omega) (aK h.a (aK hA (by decide)))
theorem Cy{J:Nat}{a:List Tm}{z:Int}(h1:1<=J)(h4:J<=4)(nn:NN a)(hz:IP J a z):FL J a z:=λM W x hM hx=>Ik M x a J z W h1 h4 nn hz hM hx.pi
theorem X7{B A k:Nat}{a:List Tm}(h:Sz B A a)(hk:k<=4)(hB:B<=30)(hA:k*A+2<=95):JF a k (dS a k):=λM W x hM hx=>by
 have hq:=qfE M x a B (k:Int) W hM hx.pi (by omega) (by
  rw[Int.toNat_natCast];have:=Nat.mul_le_mul_left k h.a
  exact aK (Nat.add_le_add_right this 2) (aK hA (by decide))) h.d (by
  rw[Int.toNat_natCast];have:=Nat.mul_le_mul hk hB
  exact aK (Nat.mul_le_mul (show k*B+1<=121 by omega) (show k*B+1<=121 by omega)) (by decide))
 rw[Int.toNat_natCast]at hq;exact hq
theorem qpc{B A C D:Nat}{a b:List Tm}(h:Sz B A a)(k:Sz C D b)(hB:B<=30)(hC:C<=30)(hA:A+D<=95):JD a b (aC a b):=λM W x y hM hx hy=>
 TC M x y a b B C W hM hx.pi hy.pi (aK (Nat.add_le_add h.a k.a) (aK hA (by decide))) h.d k.d (aK (Nat.mul_le_mul (show B+1<=31 by omega) (show C+1<=31 by omega)) (by decide))
theorem qqx{B A C G:Nat}{l r q:List Tm}(h:Sz B A l)(k:Sz C G r)(nq:NN q)(hz:¬af r [])(hs:af (aC q r) l)(hO:qW C 4 B)(hS:A+qX C 4 B*(G+2)<=549755813888):JG l r q:=λM W x y hM hx hy=>
 (qDE C G M l r x y B A W hM hx.pi hy.pi k.n h.d k.d h.a k.a hO hS).mono λe w'⟨v,h1,h2,_,h4⟩=>by
  rw[qqz nq k.n hz hs]at h2;exact⟨v,h1,h2.bP (o6 nq),h4⟩
theorem X8{J B A C D n V:Nat}{f g:List Tm}(h1:1<=J)(h4:J<=4)(h:Sz B A f)(k:Sz C D g)(hf:¬af f [])(hz:¬af g [])(hd:dJ J g n)(hm:dJ J f (n+V-1))(hV:1<=V)(jM:C<=1000)(Ai:D<=1000)(hN:LK B C A D):JI J f g (ve J n V f (cB g)):=λM W x y hM hx hy=>by
 refine(qDG M f g x y J B C A D W h1 h4 hM hx.pi hy.pi h.n k.n hz h.d k.d (aK (Nat.succ_le_succ jM) (by decide)) h.a k.a (aK (Nat.succ_le_succ Ai) (by decide)) hN).mono ?_;rintro e w' ⟨v,n',V',rfl,yX,iw,hv,Ky⟩;obtain rfl:n'=n:=Nh k.n hz yX hd
 obtain rfl:V'=V:=by
  rcases iw with⟨h,_⟩|⟨_,a,ha,rfl⟩
  ·exact absurd h hf
  ·have:=Nh h.n hf ha hm;omega
 exact⟨v,rfl,hv,Ky⟩
def mP(J:Nat)(f g:List Tm):List Tm:=aC (aS J f 2) (aS J g 1)++cB (aC (aS J f 1) (aS J g 2))
def mQ(J:Nat)(f g:List Tm):List Tm:=aC (aS J f 2) (aS J g 0)++cB (aC (aS J f 0) (aS J g 2))
def mW(J:Nat)(f g:List Tm):List Tm:=aC (aS J f 1) (aS J g 0)++cB (aC (aS J f 0) (aS J g 1))
def mR(J:Nat)(f g:List Tm):List Tm:=aC (mQ J f g) (mQ J f g)++cB (aC (mP J f g) (mW J f g))
def mS(J:Nat)(f g:List Tm):List Tm:=aM J 2 λi=>if i=0 then mQ J f g else mP J f g
def mT(J:Nat)(f g:List Tm):List Tm:=aC (aS J g 1) (aC (aS J g 1) (aS J f 0)++cB (aC (aS J g 0) (aS J f 1)))++cB (cB (aC (aC (aS J g 0) (aS J g 0)) (aS J f 2)))
section
variable{J:Nat}{f g:List Tm}(h1:1<=J)(h4:J<=4)(nf:NN f)(ng:NN g)
include h1 h4 nf ng
theorem OH:NN (mP J f g):=(fF (gX h1 h4 nf) (gX h1 h4 ng)).append (oq (fF (gX h1 h4 nf) (gX h1 h4 ng)))
theorem Lj:NN (mQ J f g):=(fF (gX h1 h4 nf) (gX h1 h4 ng)).append (oq (fF (gX h1 h4 nf) (gX h1 h4 ng)))
theorem Im:NN (mW J f g):=(fF (gX h1 h4 nf) (gX h1 h4 ng)).append (oq (fF (gX h1 h4 nf) (gX h1 h4 ng)))
theorem Tn:NN (mR J f g):=(fF (Lj h1 h4 nf ng) (Lj h1 h4 nf ng)).append (oq (fF (OH h1 h4 nf ng) (Im h1 h4 nf ng)))
theorem QU(x:Nat->Int):ev x (mP J f g)=ev x (aS J f 2)*ev x (aS J g 1)-ev x (aS J f 1)*ev x (aS J g 2):=by
 have nF:∀i:Nat,NN (aS J f i):=λi=>gX h1 h4 nf;have nG:∀i:Nat,NN (aS J g i):=λi=>gX h1 h4 ng;unfold mP;rw[tQ,jq x (nF _) (nG _),vQ x (fF (nF _) (nG _)),jq x (nF _) (nG _)];omega
theorem QV(x:Nat->Int):ev x (mQ J f g)=ev x (aS J f 2)*ev x (aS J g 0)-ev x (aS J f 0)*ev x (aS J g 2):=by
 have nF:∀i:Nat,NN (aS J f i):=λi=>gX h1 h4 nf;have nG:∀i:Nat,NN (aS J g i):=λi=>gX h1 h4 ng;unfold mQ;rw[tQ,jq x (nF _) (nG _),vQ x (fF (nF _) (nG _)),jq x (nF _) (nG _)];omega
theorem Gw(x:Nat->Int):ev x (mW J f g)=ev x (aS J f 1)*ev x (aS J g 0)-ev x (aS J f 0)*ev x (aS J g 1):=by
 have nF:∀i:Nat,NN (aS J f i):=λi=>gX h1 h4 nf;have nG:∀i:Nat,NN (aS J g i):=λi=>gX h1 h4 ng;unfold mW;rw[tQ,jq x (nF _) (nG _),vQ x (fF (nF _) (nG _)),jq x (nF _) (nG _)];omega
theorem Ni(x:Nat->Int):ev x (mR J f g)=ev x (mQ J f g)*ev x (mQ J f g)-ev x (mP J f g)*ev x (mW J f g):=by
 unfold mR;rw[tQ,jq x (Lj h1 h4 nf ng) (Lj h1 h4 nf ng),vQ x (fF (OH h1 h4 nf ng) (Im h1 h4 nf ng)),jq x (OH h1 h4 nf ng) (Im h1 h4 nf ng)];omega
theorem Tq:NN (mT J f g):=by
 have nF:∀i:Nat,NN (aS J f i):=λi=>gX h1 h4 nf;have nG:∀i:Nat,NN (aS J g i):=λi=>gX h1 h4 ng;exact(fF (nG _) ((fF (nG _) (nF _)).append (oq (fF (nG _) (nF _))))).append (oq (oq (fF (fF (nG _) (nG _)) (nF _))))
theorem qbY(x:Nat->Int):ev x (mT J f g)=ev x (aS J g 1)*ev x (aS J g 1)*ev x (aS J f 0)-ev x (aS J g 1)*ev x (aS J g 0)*ev x (aS J f 1)+ev x (aS J g 0)*ev x (aS J g 0)*ev x (aS J f 2):=by
 have nF:∀i:Nat,NN (aS J f i):=λi=>gX h1 h4 nf;have nG:∀i:Nat,NN (aS J g i):=λi=>gX h1 h4 ng;unfold mT;rw[tQ,jq x (nG _) ((fF (nG _) (nF _)).append (oq (fF (nG _) (nF _)))),tQ,jq x (nG _) (nF _),vQ x (fF (nG _) (nF _)),jq x (nG _) (nF _),vQ x (oq (fF (fF (nG _) (nG _)) (nF _))),vQ x (fF (fF (nG _) (nG _)) (nF _)),jq x (fF (nG _) (nG _)) (nF _),jq x (nG _) (nG _)]
 grind
omit nf in
theorem Gv(x:Nat->Int)(i:Nat):ev x (aS J (cB g) i)= -ev x (aS J g i):=by
 rw[rf x (quk h1 h4 (i:Int) g),vQ x (gX h1 h4 ng)]
theorem qCm:af (ve J 1 1 f (cB g)) (mW J f g):=by
 have nF:∀i:Nat,NN (aS J f i):=λi=>gX h1 h4 nf;have nG:∀i:Nat,NN (aS J (cB g) i):=λi=>gX h1 h4 (oq ng)
 have e:ve J 1 1 f (cB g)=aM J 1 λ_=>aC (aS J f 0) (aS J (cB g) 1)++cB (aC (aS J f 1) (aS J (cB g) 0)):=
  OQ _ _ _ _ λi hi=>by obtain rfl:i=0:=by omega
                       rfl
 have nn:NN (aC (aS J f 0) (aS J (cB g) 1)++cB (aC (aS J f 1) (aS J (cB g) 0))):=(fF (nF _) (nG _)).append (oq (fF (nF _) (nG _)));rw[e];refine af.trans (wN (r:=aC (aS J f 0) (aS J (cB g) 1)++cB (aC (aS J f 1) (aS J (cB g) 0))) (NN.aM λ_ _=>nn) nn λx=>?_) (wN nn (Im h1 h4 nf ng) λx=>?_)
 ·rw[QW x J 1 _ h1 h4 λ_ _=>nn];simp[wM]
 ·rw[tQ,jq x (nF _) (nG _),vQ x (fF (nF _) (nG _)),jq x (nF _) (nG _),Gw h1 h4 nf ng x,Gv h1 h4 ng,Gv h1 h4 ng]
  grind
theorem qqH:af (ve J 1 2 f (cB g)) (mT J f g):=by
 have nF:∀i:Nat,NN (aS J f i):=λi=>gX h1 h4 nf;have nG:∀i:Nat,NN (aS J (cB g) i):=λi=>gX h1 h4 (oq ng);obtain⟨u,hu⟩:∃u,u=aC (aC (aS J f 0) (aS J (cB g) 1)) (aS J (cB g) 1)++cB (aC (aC (aS J f 1) (aS J (cB g) 1)++cB (aC (aS J f 2) (aS J (cB g) 0))) (aS J (cB g) 0)):=⟨_,rfl⟩
 have e:ve J 1 2 f (cB g)=aM J 1 λ_=>u:=
  OQ _ _ _ _ λi hi=>by obtain rfl:i=0:=by omega
                       rw[hu];rfl
 have n1:=fF (fF (nF 0) (nG 1)) (nG 1);have n2:=(fF (nF 1) (nG 1)).append (oq (fF (nF 2) (nG 0)));have n3:=fF n2 (nG 0)
 have nn:NN u:=by rw[hu];exact n1.append (oq n3)
 rw[e];refine af.trans (wN (r:=u) (NN.aM λ_ _=>nn) nn λx=>?_) (wN nn (Tq h1 h4 nf ng) λx=>?_)
 ·rw[QW x J 1 _ h1 h4 λ_ _=>nn];simp[wM]
 ·rw[hu,tQ,jq x (fF (nF 0) (nG 1)) (nG 1),jq x (nF 0) (nG 1),vQ x n3,jq x n2 (nG 0),tQ,jq x (nF 1) (nG 1),vQ x (fF (nF 2) (nG 0)),jq x (nF 2) (nG 0),qbY h1 h4 nf ng x,Gv h1 h4 ng,Gv h1 h4 ng]
  grind
theorem qCn:af (ve J 2 1 f (cB g)) (mS J f g):=by
 have nF:∀i:Nat,NN (aS J f i):=λi=>gX h1 h4 nf;have nG:∀i:Nat,NN (aS J (cB g) i):=λi=>gX h1 h4 (oq ng);have n1:∀i,NN (aC (aS J f i) (aS J (cB g) 2)++cB (aC (aS J f 2) (aS J (cB g) i))):=λi=>(fF (nF _) (nG _)).append (oq (fF (nF _) (nG _)))
 have e:ve J 2 1 f (cB g)=aM J 2 λi=>aC (aS J f i) (aS J (cB g) 2)++cB (aC (aS J f 2) (aS J (cB g) i)):=
  OQ _ _ _ _ λi hi=>by
   rcases(show i=0\/i=1 by omega)with rfl|rfl
   ·rfl
   ·rfl
 rw[e];refine qO _ _ _ _ λi hi=>?_;rcases(show i=0\/i=1 by omega)with rfl|rfl
 ·rw[av rfl];refine wN (n1 0) (Lj h1 h4 nf ng) λx=>?_;rw[tQ,jq x (nF _) (nG _),vQ x (fF (nF _) (nG _)),jq x (nF _) (nG _),QV h1 h4 nf ng x,Gv h1 h4 ng,Gv h1 h4 ng]
  grind
 ·rw[aj (by omega)];refine wN (n1 1) (OH h1 h4 nf ng) λx=>?_;rw[tQ,jq x (nF _) (nG _),vQ x (fF (nF _) (nG _)),jq x (nF _) (nG _),QU h1 h4 nf ng x,Gv h1 h4 ng,Gv h1 h4 ng]
  grind
theorem Tp:NN (mS J f g):=NN.aM λi _=>by
 by_cases h:i=0
 ·rw[av h];exact Lj h1 h4 nf ng
 ·rw[aj h];exact OH h1 h4 nf ng
omit ng in
theorem QK(i:Nat):af (aS J (mS J f g) i) (if i=0 then mQ J f g else if i=1 then mP J f g else[]):=by
 have hP:∀i:Nat,kQ J (if i=0 then mQ J f g else mP J f g):=λi=>by
  have k:∀a b:Nat,kQ J (aC (aS J f a) (aS J g b)):=λa b=>(qb3 h1 h4 _ _).aC (qb3 h1 h4 _ _) (gX h1 h4 nf)
  by_cases h:i=0
  ·rw[av h];exact(k 2 0).append (k 0 2).neg
  ·rw[aj h];exact(k 2 1).append (k 1 2).neg
 refine(ckP h1 h4 hP i 2).trans ?_
 by_cases h:i=0
 ·subst h;rw[av (by omega),av rfl];exact af.refl _
 ·simp only[aj h]
  by_cases h':i=1
  ·subst h';rw[av (by omega),av rfl];exact af.refl _
  ·rw[aj h',aj (by omega)];exact af.refl _
theorem qCo:af (ve J 1 2 g (cB (mS J f g))) (aC (mR J f g) (aS J g 2)):=by
 have nF:∀i:Nat,NN (aS J f i):=λi=>gX h1 h4 nf;have nG:∀i:Nat,NN (aS J g i):=λi=>gX h1 h4 ng;refine(qqH h1 h4 ng (Tp h1 h4 nf ng)).trans (wN (Tq h1 h4 ng (Tp h1 h4 nf ng)) (fF (Tn h1 h4 nf ng) (nG 2)) λx=>?_);have c0:=rf x (QK (g:=g) h1 h4 nf 0);have c1:=rf x (QK (g:=g) h1 h4 nf 1);rw[av rfl]at c0;rw[aj (by omega),av rfl]at c1;rw[qbY h1 h4 ng (Tp h1 h4 nf ng) x,c0,c1,jq x (Tn h1 h4 nf ng) (nG 2),Ni h1 h4 nf ng x,QU h1 h4 nf ng x,QV h1 h4 nf ng x,Gw h1 h4 nf ng x]
 grind
end
section
variable{J:Nat}{f g:List Tm}(h1:1<=J)(h4:J<=4)(hf:Sz 3 10 f)(hg:Sz 3 10 g)
include h1 h4 hf hg
theorem qbB:fU J 6 21 (mP J f g):=((hf.ck h1 h4 _).aC (hg.ck h1 h4 _)).sub ((hf.ck h1 h4 _).aC (hg.ck h1 h4 _))
theorem Vx:fU J 6 21 (mQ J f g):=((hf.ck h1 h4 _).aC (hg.ck h1 h4 _)).sub ((hf.ck h1 h4 _).aC (hg.ck h1 h4 _))
theorem qbC:fU J 6 21 (mW J f g):=((hf.ck h1 h4 _).aC (hg.ck h1 h4 _)).sub ((hf.ck h1 h4 _).aC (hg.ck h1 h4 _))
theorem qjz:fU J 12 43 (mR J f g):=((Vx h1 h4 hf hg).aC (Vx h1 h4 hf hg)).sub ((qbB h1 h4 hf hg).aC (qbC h1 h4 hf hg))
omit h1 h4 hf hg in
theorem quJ{B A:Nat}{l:List Tm}(h:fU J B A l):fU J B A (cB l):=⟨oq h.1,h.2.1.neg,OE h.2.2.1,by rw[OG];exact h.2.2.2⟩
theorem qjA:fU J 9 32 (mT J f g):=
 fU.sub (((hg.ck h1 h4 _).aC (((hg.ck h1 h4 _).aC (hf.ck h1 h4 _)).sub ((hg.ck h1 h4 _).aC (hf.ck h1 h4 _)))).mono (aA 9) (by omega)) ((quJ (((hg.ck h1 h4 _).aC (hg.ck h1 h4 _)).aC (hf.ck h1 h4 _))).mono (aA 9) (by omega))
theorem qDX:Sz 8 22 (mS J f g):=by
 have c:∀i:Nat,fU J 6 21 (if i=0 then mQ J f g else mP J f g):=λi=>by
  by_cases h:i=0
  ·rw[av h];exact Vx h1 h4 hf hg
  ·rw[aj h];exact qbB h1 h4 hf hg
 refine⟨Tp h1 h4 hf.n hg.n,qBM h1 h4 λi _=>(c i).2.2.1,?_⟩;refine aK (fu (qA1 J 2 _ (max (aB (mQ J f g)) (aB (mP J f g))) λi _=>?_)) ?_
 ·by_cases h:i=0
  ·rw[av h];exact Nat.le_max_left _ _
  ·rw[aj h];exact Nat.le_max_right _ _
 ·refine aK (nN _ _) ?_
  have a1:aF (max (aB (mQ J f g)) (aB (mP J f g)))<=21:=by
   rcases Nat.le_total (aB (mQ J f g)) (aB (mP J f g))with h|h
   ·rw[Nat.max_eq_right h];exact(qbB h1 h4 hf hg).2.2.2
   ·rw[Nat.max_eq_left h];exact(Vx h1 h4 hf hg).2.2.2
  have a2:aF 2<=1:=by decide
  omega
end
theorem qb4{J:Nat}{R:List Tm}(h:kQ J R):dJ J R 0:=⟨λm hm=>by rw[h m hm];exact Int.le_refl _,.inl rfl⟩
theorem qjS{J:Nat}(h1:1<=J)(h4:J<=4){g R s:List Tm}(hg:FL J g 1)(nR:NN R)(fR:kQ J R):LG J 1 (λ_=>R) 1 g R s λ_=>[]:=by
 by_cases hz:af R []
 ·exact⟨1,hg,by omega,by omega,.inl ⟨Cy h1 h4 nR (.inl ⟨hz,rfl⟩),λi _=>hz.symm⟩⟩
 ·refine⟨1,hg,by omega,by omega,.inr ⟨1,0,R,zG (λ_=>[]) 0 R,rfl,Cy h1 h4 nR (.inr ⟨hz,0,qb4 fR,rfl⟩),by omega,by omega,.inl ⟨rfl,rfl,rfl⟩,.inl ⟨rfl,λi hi=>?_⟩⟩⟩
  obtain rfl:i=0:=by omega
  exact af.refl _
def f22(J:Nat)(f g:List Tm):Nat->List Tm:=λj=>if j=0 then mR J f g else mS J f g
theorem qBi:qW 3 4 15:=by
 simp only[qW,fT];decide
theorem qA5:53+qX 3 4 15*(10+2)<=549755813888:=by
 simp only[qX,fT];decide
theorem ok0:qW 0 4 16:=by
 simp only[qW,fT];decide
theorem qpL:45+qX 0 4 16*(1+2)<=549755813888:=by
 simp only[qX,fT];decide
theorem qvv:LK 3 8 10 22:=⟨by decide,by decide,by decide⟩
theorem qbP:LK 3 3 10 10:=⟨by decide,by decide,by decide⟩
theorem TI:Sz 0 1 [((1:Int),Mo.zero)]:=⟨xV 1,λm hm k=>by
 have h:m=Mo.zero:=gQ λhc=>hm (by simp only[aH];rw[aj λe=>hc e.symm];rfl)
 rw[h,CO];omega,by decide⟩
theorem qDY{B A k:Nat}{l:List Tm}(h:Sz B A l):Sz (k*B) (k*A+1) (dS l k):=by
 induction k with
 |zero=>rw[Nat.zero_mul,Nat.zero_mul];exact TI
 |succ k ih=>
  rw[OT];refine⟨fF ih.n h.n,?_,?_⟩
  ·rw[Nat.succ_mul];exact bE.aC ih.d h.d ih.n
  ·rw[DN,Nat.succ_mul];have:=nN (aB (dS l k)) (aB l);have:=ih.a;have:=h.a;omega
theorem qv8(x:Nat->Int)(l:List Tm):ev x (dS l 0)=1:=J2 x 1
theorem qq7{l:List Tm}(hl:NN l){s:List Tm}(hs:af s [((1:Int),Mo.zero)])(ns:NN s)(k:Nat):af (dS s k) [((1:Int),Mo.zero)]/\NN (dS s k):=by
 induction k with
 |zero=>exact⟨af.refl _,xV 1⟩
 |succ k ih=>
  rw[OT];refine⟨wN (fF ih.2 ns) (xV 1) λx=>?_,fF ih.2 ns⟩;rw[jq x ih.2 ns,rf x ih.1,rf x hs,J2];rfl
theorem qvl{J:Nat}{f g l:List Tm}(h1:1<=J)(h4:J<=4)(hf:Sz 3 10 f)(hg:Sz 3 10 g)(hl:Sz 3 10 l)(hd:dJ J g 2):LG J 2 (f22 J f g) 2 g (mS J f g) (dS l 0) λ_=>[]:=by
 have qG:¬af g []:=λh=>hd.Vr h1 h4 (by omega) (xB h);have jc:FL J g 2:=Cy h1 h4 hg.n (.inr ⟨qG,2,hd,rfl⟩);have nP:=OH h1 h4 hf.n hg.n;have nQ:=Lj h1 h4 hf.n hg.n;have nR:=Tn h1 h4 hf.n hg.n;have nS:=Tp h1 h4 hf.n hg.n;have k0:=QK (g:=g) h1 h4 hf.n 0;have k1:=QK (g:=g) h1 h4 hf.n 1
 have kz:∀i:Nat,1<i->af (aS J (mS J f g) i) []:=λi hi=>by
  have:=QK (g:=g) h1 h4 hf.n i;rw[aj (by omega),aj (by omega)]at this;exact this
 rw[av rfl]at k0;rw[aj (by omega),av rfl]at k1;have sS:=qDX h1 h4 hf hg;have sR:=qjz h1 h4 hf hg
 by_cases hp:af (mP J f g) []
 ·have k1z:∀i:Nat,0<i->af (aS J (mS J f g) i) []:=λi hi=>by
   by_cases e:i=1
   ·subst e;exact k1.trans hp
   ·exact kz i (by omega)
  have eP:∀x,ev x (mP J f g)=0:=λx=>rf x hp
  by_cases hq:af (mQ J f g) []
  ·have hS:af (mS J f g) []:=qAP h1 h4 nS λi=>by
    by_cases e:i=0
    ·subst e;exact k0.trans hq
    ·exact k1z i (by omega)
   refine⟨2,jc,by omega,by omega,.inl ⟨Cy h1 h4 nS (.inl ⟨hS,rfl⟩),λi hi=>?_⟩⟩;unfold f22
   by_cases e:i=0
   ·rw[av e];refine wN NN.nil nR λx=>?_;rw[Ni h1 h4 hf.n hg.n x,eP x,rf x hq];simp[ev]
   ·rw[aj e];exact hS.symm
  ·have NK:¬af (mS J f g) []:=λh=>hq (k0.symm.trans (xB h));have xJ:dJ J (mS J f g) 0:=qjK h1 h4 nS k1z (.inl rfl);have sK:Sz 8 22 (ck J (0:Nat) (mS J f g)):=(sS.ck h1 h4 _).sz;have Lv:=qDY (k:=1) sK;have ho:=qq7 (l:=l) hl.n (s:=dS l 0) (af.refl _) (xV 1) (2-0-1)
   have hzo:¬af (dS (dS l 0) (2-0-1)) []:=λh=>by
    have:=(ho.1.symm.trans h) Mo.zero;simp[aH]at this
   refine⟨2,jc,by omega,by omega,.inr ⟨2,0,aC (dS (ck J (0:Nat) (mS J f g)) (2-0-1)) (mS J f g),_,rfl,Cy h1 h4 nS (.inr ⟨NK,0,xJ,rfl⟩),by omega,by omega,.inr ⟨by omega,rfl,ck J (0:Nat) (mS J f g),dS (ck J (0:Nat) (mS J f g)) (2-0-1),aC (dS (ck J (0:Nat) (mS J f g)) (2-0-1)) (mS J f g),dS (dS l 0) (2-0-1),XC h1 h4 sS NK xJ (by omega) (by omega),X7 sK (by omega) (by omega) (by omega),qpc Lv sS (by omega) (by omega) (by omega),X7 TI (by omega) (by omega) (by omega),?_⟩,.inl ⟨rfl,λi hi=>?_⟩⟩⟩
   ·have hm:Sz 16 45 (aC (dS (ck J (0:Nat) (mS J f g)) (2-0-1)) (mS J f g)):=⟨fF Lv.n sS.n,bE.aC Lv.d sS.d Lv.n,by rw[DN];exact aK (nN _ _) (Nat.add_le_add Lv.a sS.a)⟩;refine(qqx hm TI hm.n (λh=>by have:=h Mo.zero;simp[aH]at this) (wN (fF hm.n (xV 1)) hm.n λx=>?_) ok0 qpL).bP (af.refl _) ho.1.symm (af.refl _);rw[jq x hm.n (xV 1),J2,Int.mul_one]
   ·by_cases e:i=0
    ·subst e;unfold f22;rw[av rfl];show af (aC (dS (ck J (0:Nat) (mS J f g)) (0+1)) (mS J f g)) _;refine wN (fF Lv.n sS.n) nR λx=>?_
     have hE:ev x (mS J f g)=ev x (mQ J f g):=by
      unfold mS;rw[QW x J 2 _ h1 h4 λi _=>by by_cases h:i=0;(rw[av h];exact nQ);(rw[aj h];exact nP)];simp[wM,eP x]
     rw[jq x Lv.n sS.n,OT,jq x (l:=dS (ck J (0:Nat) (mS J f g)) 0) (xV 1) sK.n,qv8,rf x k0,hE,Ni h1 h4 hf.n hg.n x,eP x]
     grind
    ·obtain rfl:i=1:=by omega
     exact af.refl _
 ·have ER:dJ J (mS J f g) 1:=qjK h1 h4 nS kz (.inr λh=>hp (k1.symm.trans h));have NK:¬af (mS J f g) []:=λh=>hp (k1.symm.trans (xB h));have qlG:FL J (mS J f g) 1:=Cy h1 h4 nS (.inr ⟨NK,1,ER,rfl⟩);have gU:¬af (aS J g 2) []:=hd.Vr h1 h4 (by omega);have OX:Sz 3 10 (aS J g 2):=(hg.ck h1 h4 _).sz;have ho:=qq7 (l:=l) hl.n (s:=dS l 0) (af.refl _) (xV 1) (2-1);have hm:Sz 15 53 (aC (mR J f g) (aS J g 2)):=(sR.aC (hg.ck h1 h4 _)).sz;have hz2:af (zG (λ_=>[]) (2-1) (mS J f g) 1) (f22 J f g 1):=af.refl _;refine⟨2,jc,by omega,by omega,.inr ⟨2,1,mS J f g,zG (λ_=>[]) (2-1) (mS J f g),rfl,qlG,by omega,by omega,.inl ⟨rfl,rfl,rfl⟩,.inr ⟨by omega,dS (dS l 0) (2-1),aS J g 2,aS J g 2,aC (mR J f g) (aS J g 2),mR J f g,ck J (1:Nat) (mS J f g),X7 TI (by omega) (by omega) (by omega),XC h1 h4 hg qG hd (by omega) (by omega),?_,(X8 h1 h4 hg sS qG NK ER (V:=2) hd (by omega) (by omega) (by omega) qvv).bP (af.refl _) (af.refl _) (qCo h1 h4 hf.n hg.n),qqx hm OX nR gU (af.refl _) qBi qA5,XC h1 h4 sS NK ER (by omega) (by omega),1,qlG,by omega,by omega,?_⟩⟩⟩
  ·refine(qpc TI OX (by omega) (by omega) (by omega)).bP ho.1.symm (af.refl _) (wN (fF (xV 1) OX.n) OX.n λx=>?_);rw[jq x (xV 1) OX.n,J2,Int.one_mul]
  ·by_cases hz:af (mR J f g) []
   ·refine .inl ⟨Cy h1 h4 nR (.inl ⟨hz,rfl⟩),λi hi=>?_⟩;rcases(show i=0\/i=1 by omega)with rfl|rfl
    ·exact hz.symm
    ·exact hz2
   ·refine .inr ⟨1,0,mR J f g,zG (zG (λ_=>[]) (2-1) (mS J f g)) (1-1) (mR J f g),rfl,Cy h1 h4 nR (.inr ⟨hz,0,qb4 sR.2.1,rfl⟩),by omega,by omega,.inl ⟨rfl,rfl,rfl⟩,.inl ⟨rfl,λi hi=>?_⟩⟩;rcases(show i=0\/i=1 by omega)with rfl|rfl
    ·exact af.refl _
    ·exact af.refl _
def DY(J m n:Nat)(f g:List Tm):Nat->List Tm:=if m=1 thenλ_=>mW J f g else if n=1 thenλ_=>mT J f g else f22 J f g
theorem Sz.mono{B A C D:Nat}{l:List Tm}(h:Sz B A l)(hB:B<=C)(hA:A<=D):Sz C D l:=⟨h.n,h.d.mono hB,aK h.a hA⟩
theorem dJ.nz{J n:Nat}{l:List Tm}(h1:1<=J)(h4:J<=4)(h:dJ J l n)(hn:1<=n):¬af l []:=λhs=>h.Vr h1 h4 hn (xB hs)
theorem qrg{J m n:Nat}{f g:List Tm}(h1:1<=J)(h4:J<=4)(hn:1<=n)(yY:n<=m)(hm:m<=2)(hf:Sz 3 10 f)(hg:Sz 3 10 g)(df:dJ J f m)(dg:dJ J g n)
 (M:Nat->Prop) (x y:PE) (w:World) (hM:Mb M w) (hx:aG M w 4 x f) (hy:aG M w 4 y g):
 Calls Tryz.prog 118 #[.agg (ag x),.agg (ag y),.int .i64 (J:Int),.int .i64 (m:Int),.int .i64 (n:Int)] w (JH M w n (DY J m n f g)):=by
 have zf:=df.nz h1 h4 (by omega);have zg:=dg.nz h1 h4 hn;have sl:Sz 3 10 (ck J (n:Int) g):=(hg.ck h1 h4 _).sz;have ld:Gf J g (ck J (n:Int) g):=XC h1 h4 hg zg dg (by omega) (by omega);have pw:JF (ck J (n:Int) g) (m-n) (dS (ck J (n:Int) g) (m-n)):=X7 sl (by omega) (by omega) (by omega);rcases(show(m=1/\n=1)\/(m=2/\n=1)\/(m=2/\n=2) by omega)with⟨rfl,rfl⟩|⟨rfl,rfl⟩|⟨rfl,rfl⟩
 ·exact qfT M x y J 1 1 1 f g _ _ (mW J f g) _ w hM (by omega) (by omega) (by omega) hx hy ld pw ((X8 h1 h4 hf hg zf zg dg (V:=1) df (by omega) (by omega) (by omega) qbP).bP (af.refl _) (af.refl _) (qCm h1 h4 hf.n hg.n)) (qjS h1 h4 (Cy h1 h4 hg.n (.inr ⟨zg,1,dg,rfl⟩)) (Im h1 h4 hf.n hg.n) (qbC h1 h4 hf hg).2.1)
 ·exact qfT M x y J 2 1 1 f g _ _ (mT J f g) _ w hM (by omega) (by omega) (by omega) hx hy ld pw ((X8 h1 h4 hf hg zf zg dg (V:=2) df (by omega) (by omega) (by omega) qbP).bP (af.refl _) (af.refl _) (qqH h1 h4 hf.n hg.n)) (qjS h1 h4 (Cy h1 h4 hg.n (.inr ⟨zg,1,dg,rfl⟩)) (Tq h1 h4 hf.n hg.n) (qjA h1 h4 hf hg).2.1)
 ·exact qfT M x y J 2 2 2 f g _ _ (mS J f g) _ w hM (by omega) (by omega) (by omega) hx hy ld pw ((X8 h1 h4 hf hg zf zg dg (V:=1) df (by omega) (by omega) (by omega) qbP).bP (af.refl _) (af.refl _) (qCn h1 h4 hf.n hg.n)) (qvl h1 h4 hf hg sl dg)
def DX(J m n:Nat)(f g:List Tm)(j:Nat):List Tm:=if m<n then DY J n m g f j else DY J m n f g j
section
end
end Go.Proofs.YtaafefeafonhdaaGreat
