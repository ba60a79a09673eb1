/- Sa -/
import Derived.Test.YtmcfpnmoklnhoaaGreatRf
set_option linter.unusedVariables false
set_option maxRecDepth 100000
set_option maxHeartbeats 400000000
set_option linter.unusedSimpArgs false
namespace Go.Proofs.YtmcfpnmoklnhoaaGreat
open Go.RowKit
def Iy(J:Nat)(a l:List Tm):Prop:=∀(M:Nat->Prop)(W:World)(x:PE),Mb M W->aI M W 4 x a->Calls Tryz.prog 117 #[.agg (ah x),.int .i64 (J:Int)] W (dH M W 4 l)
def Nl(J:Nat)(a:List Tm)(z:Int):Prop:=∀(M:Nat->Prop)(W:World)(x:PE),Mb M W->aI M W 4 x a->Calls Tryz.prog 43 #[.agg (ah x),.int .i64 (J:Int)] W λe w'=>e=.returned (.int .i64 z)/\Ext W w'
def KL(l:List Tm)(k:Nat)(s:List Tm):Prop:=∀(M:Nat->Prop)(W:World)(x:PE),Mb M W->aI M W 4 x l->Calls Tryz.prog 53 #[.agg (ah x),.int .i64 (k:Int)] W (dH M W 4 s)
def Ti(a b c:List Tm):Prop:=∀(M:Nat->Prop)(W:World)(x y:PE),Mb M W->aI M W 4 x a->aI M W 4 y b->Calls Tryz.prog 55 #[.agg (ah x),.agg (ah y)] W (dH M W 4 c)
def Tk(a b c:List Tm):Prop:=∀(M:Nat->Prop)(W:World)(x y:PE),Mb M W->aI M W 4 x a->aI M W 4 y b->Calls Tryz.prog 196 #[.agg (ah x),.agg (ah y)] W (dH M W 4 c)
def IG(J:Nat)(a b r:List Tm):Prop:=∀(M:Nat->Prop)(W:World)(x y:PE),Mb M W->aI M W 4 x a->aI M W 4 y b->Calls Tryz.prog 195 #[.agg (ah x),.agg (ah y),.int .i64 (J:Int)] W (dH M W 4 r)
def CW(L:Nat->List Tm)(i:Nat)(b:List Tm):Nat->List Tm:=λj=>if j=i then b else L j
def WQ(J:Nat)(b s:List Tm)(gap e:Nat)(L L':Nat->List Tm)(c:List Tm):Prop:=
 (gap=1/\c=b/\L'=L)\/(1<gap/\L'=CW L e c/\∃lb p c0 q,Iy J b lb/\KL lb (gap-1) p/\Ti p b c0/\KL s (gap-1) q/\Tk c0 q c)
def Nk(J n:Nat)(F:Nat->List Tm):Nat->List Tm->List Tm->List Tm->(Nat->List Tm)->Prop
 |0,_,_,_,_=>False
 |k+1,a,b,s,L=>∃d:Int,Nl J a d/\ -1<=d/\d<=1000/\((Nl J b (-1)/\∀i,i<n->ae (L i) (F i))\/∃(dn e:Nat)(c:List Tm)(L':Nat->List Tm),d=(dn:Int)/\Nl J b (e:Int)/\e<dn/\dn<=n/\WQ J b s (dn-e) e (CW L (dn-1) b) L' c/\
  ((e=0/\∀i,i<n->ae (L' i) (F i))\/(0<e/\∃s1 la dv r b' s',KL s (dn-e) s1/\Iy J a la/\Ti s1 la dv/\IG J a b r/\Tk r dv b'/\Iy J c s'/\Nk J n F k c b' s' L')))
structure nD(M:Nat->Prop)(w:World)(g:Nat)(z:PE)(l:List Tm):Prop where
 b:ak w g 33 4 (arr (ah z))
 x:aI M w 4 z l
theorem nD.ext{M:Nat->Prop}{w w':World}{g:Nat}{z:PE}{l:List Tm}(h:nD M w g z l)(he:Ext w w'):nD M w' g z l:=⟨h.b.ext he,h.x.ext he⟩
theorem nD.more{M M':Nat->Prop}{w:World}{g:Nat}{z:PE}{l:List Tm}(h:nD M w g z l)(hm:∀b,M' b->M b\/w.heap.size<=b):nD M' w g z l:=⟨h.b,h.x.more hm⟩
theorem nD.other{M:Nat->Prop}{w w':World}{g:Nat}{z:PE}{l:List Tm}(h:nD M w g z l)(hk:Kp M w w')(hh:w'.heap[g]?=w.heap[g]?):nD M w' g z l:=⟨h.b.of_heap hh,h.x.kp hk⟩
theorem nD.put{M:Nat->Prop}{w:World}{g:Nat}{z u:PE}{l r:List Tm}(h:nD M w g z l)(hg:M g)(hu:aI M w 4 u r):nD M (aH w g 0 (.int .i64 u.lv) (.bool u.b) (.slice u.a u.n u.p) (.slice u.ka u.kn u.kp)) g u r:=
 ⟨TJ h.b u,hu.kp (Kp.aH hg _ _ _ _ _)⟩
theorem nD.lt{M:Nat->Prop}{w:World}{g:Nat}{z:PE}{l:List Tm}(h:nD M w g z l):g<w.heap.size:=h.b.lt
structure lG(M:Nat->Prop)(w:World)(n gt g12 g13 g14:Nat)(MW:Nat->Prop)(wr:World)(a b s:List Tm)(L:Nat->List Tm)(za zb zs:PE):Prop where
 A:nD MW wr g13 za a
 B:nD MW wr g14 zb b
 S:nD MW wr g12 zs s
 L:Kids MW wr 4 gt n L
 m:Mb MW wr
 e:Ext w wr
 sub:∀b,M b->MW b
 sup:∀b,MW b->M b\/w.heap.size<=b
 mt:MW gt
 m2:MW g12
 m3:MW g13
 m4:MW g14
def Nn(w:World)(gt g12 g13 g14:Nat):Prop:=(gt≠g12/\gt≠g13/\gt≠g14/\g12≠g13/\g12≠g14/\g13≠g14)/\w.heap.size<=gt/\w.heap.size<=g12/\w.heap.size<=g13/\w.heap.size<=g14
section
variable{M:Nat->Prop}{w:World}{n gt g12 g13 g14:Nat}{MW:Nat->Prop}{wr:World}{a b s:List Tm}{L:Nat->List Tm}{za zb zs:PE}
theorem lG.ext(h:lG M w n gt g12 g13 g14 MW wr a b s L za zb zs){w':World}(he:Ext wr w'):lG M w n gt g12 g13 g14 MW w' a b s L za zb zs:=
 ⟨h.A.ext he,h.B.ext he,h.S.ext he,h.L.ext he,h.m.ext he,h.e.trans he,h.sub,h.sup,h.mt,h.m2,h.m3,h.m4⟩
theorem lG.more(h:lG M w n gt g12 g13 g14 MW wr a b s L za zb zs){w':World}(he:Ext wr w'){g:Nat}(hg:wr.heap.size<=g)(PO:g<w'.heap.size):lG M w n gt g12 g13 g14 (λq=>MW q\/q=g) w' a b s L za zb zs:=by
 have hm:∀q,(MW q\/q=g)->MW q\/wr.heap.size<=q:=λq hq=>hq.imp id λe=>by omega
 exact⟨(h.A.more hm).ext he,(h.B.more hm).ext he,(h.S.more hm).ext he,(h.L.more hm).ext he,mO (h.m.ext he) PO,h.e.trans he,λq hq=>.inl (h.sub q hq),λq hq=>hq.elim (h.sup q) λe=>.inr (by have:=h.e.size;omega),.inl h.mt,.inl h.m2,.inl h.m3,.inl h.m4⟩
theorem lG.list(h:lG M w n gt g12 g13 g14 MW wr a b s L za zb zs)(hd:Nn w gt g12 g13 g14){i:Nat}(hi:i<n){u:PE}{r:List Tm}(hu:aI MW wr 4 u r):lG M w n gt g12 g13 g14 MW (aH wr gt (i*4) (.int .i64 u.lv) (.bool u.b) (.slice u.a u.n u.p) (.slice u.ka u.kn u.kp)) a b s (CW L i r) za zb zs:=by
 have hk:Kp MW wr (aH wr gt (i*4) (.int .i64 u.lv) (.bool u.b) (.slice u.a u.n u.p) (.slice u.ka u.kn u.kp)):=Kp.aH h.mt _ _ _ _ _;have hh:=λq=>il wr gt (i*4) (.int .i64 u.lv) (.bool u.b) (.slice u.a u.n u.p) (.slice u.ka u.kn u.kp) q;exact⟨h.A.other hk (hh _ λe=>hd.1.2.1 e.symm),h.B.other hk (hh _ λe=>hd.1.2.2.1 e.symm),h.S.other hk (hh _ λe=>hd.1.1 e.symm),h.L.set h.mt i hi hu,h.m.size hk.1,h.e.aH hd.2.1 _ _ _ _ _,h.sub,h.sup,h.mt,h.m2,h.m3,h.m4⟩
theorem lG.beside(h:lG M w n gt g12 g13 g14 MW wr a b s L za zb zs){g:Nat}(hg:MW g)(h1:g≠gt/\g≠g12/\g≠g13/\g≠g14/\w.heap.size<=g)(u:PE):lG M w n gt g12 g13 g14 MW (aH wr g 0 (.int .i64 u.lv) (.bool u.b) (.slice u.a u.n u.p) (.slice u.ka u.kn u.kp)) a b s L za zb zs:=by
 have hk:Kp MW wr (aH wr g 0 (.int .i64 u.lv) (.bool u.b) (.slice u.a u.n u.p) (.slice u.ka u.kn u.kp)):=Kp.aH hg _ _ _ _ _;have hh:=λq=>il wr g 0 (.int .i64 u.lv) (.bool u.b) (.slice u.a u.n u.p) (.slice u.ka u.kn u.kp) q;exact⟨h.A.other hk (hh _ λe=>h1.2.2.1 e.symm),h.B.other hk (hh _ λe=>h1.2.2.2.1 e.symm),h.S.other hk (hh _ λe=>h1.2.1 e.symm),h.L.kp (hh _ λe=>h1.1 e.symm) hk,h.m.size hk.1,h.e.aH h1.2.2.2.2 _ _ _ _ _,h.sub,h.sup,h.mt,h.m2,h.m3,h.m4⟩
theorem lG.qxX(h:lG M w n gt g12 g13 g14 MW wr a b s L za zb zs)(hd:Nn w gt g12 g13 g14){u:PE}{r:List Tm}(hu:aI MW wr 4 u r):lG M w n gt g12 g13 g14 MW (aH wr g13 0 (.int .i64 u.lv) (.bool u.b) (.slice u.a u.n u.p) (.slice u.ka u.kn u.kp)) r b s L u zb zs:=by
 have hk:Kp MW wr (aH wr g13 0 (.int .i64 u.lv) (.bool u.b) (.slice u.a u.n u.p) (.slice u.ka u.kn u.kp)):=Kp.aH h.m3 _ _ _ _ _;have hh:=λq=>il wr g13 0 (.int .i64 u.lv) (.bool u.b) (.slice u.a u.n u.p) (.slice u.ka u.kn u.kp) q;exact⟨h.A.put h.m3 hu,h.B.other hk (hh _ λe=>hd.1.2.2.2.2.2 e.symm),h.S.other hk (hh _ hd.1.2.2.2.1),h.L.kp (hh _ hd.1.2.1) hk,h.m.size hk.1,h.e.aH hd.2.2.2.1 _ _ _ _ _,h.sub,h.sup,h.mt,h.m2,h.m3,h.m4⟩
theorem lG.qxY(h:lG M w n gt g12 g13 g14 MW wr a b s L za zb zs)(hd:Nn w gt g12 g13 g14){u:PE}{r:List Tm}(hu:aI MW wr 4 u r):lG M w n gt g12 g13 g14 MW (aH wr g14 0 (.int .i64 u.lv) (.bool u.b) (.slice u.a u.n u.p) (.slice u.ka u.kn u.kp)) a r s L za u zs:=by
 have hk:Kp MW wr (aH wr g14 0 (.int .i64 u.lv) (.bool u.b) (.slice u.a u.n u.p) (.slice u.ka u.kn u.kp)):=Kp.aH h.m4 _ _ _ _ _;have hh:=λq=>il wr g14 0 (.int .i64 u.lv) (.bool u.b) (.slice u.a u.n u.p) (.slice u.ka u.kn u.kp) q;exact⟨h.A.other hk (hh _ hd.1.2.2.2.2.2),h.B.put h.m4 hu,h.S.other hk (hh _ hd.1.2.2.2.2.1),h.L.kp (hh _ hd.1.2.2.1) hk,h.m.size hk.1,h.e.aH hd.2.2.2.2 _ _ _ _ _,h.sub,h.sup,h.mt,h.m2,h.m3,h.m4⟩
theorem lG.qxZ(h:lG M w n gt g12 g13 g14 MW wr a b s L za zb zs)(hd:Nn w gt g12 g13 g14){u:PE}{r:List Tm}(hu:aI MW wr 4 u r):lG M w n gt g12 g13 g14 MW (aH wr g12 0 (.int .i64 u.lv) (.bool u.b) (.slice u.a u.n u.p) (.slice u.ka u.kn u.kp)) a b r L za zb u:=by
 have hk:Kp MW wr (aH wr g12 0 (.int .i64 u.lv) (.bool u.b) (.slice u.a u.n u.p) (.slice u.ka u.kn u.kp)):=Kp.aH h.m2 _ _ _ _ _;have hh:=λq=>il wr g12 0 (.int .i64 u.lv) (.bool u.b) (.slice u.a u.n u.p) (.slice u.ka u.kn u.kp) q;exact⟨h.A.other hk (hh _ λe=>hd.1.2.2.2.1 e.symm),h.B.other hk (hh _ λe=>hd.1.2.2.2.2.1 e.symm),h.S.put h.m2 hu,h.L.kp (hh _ hd.1.1) hk,h.m.size hk.1,h.e.aH hd.2.2.1 _ _ _ _ _,h.sub,h.sup,h.mt,h.m2,h.m3,h.m4⟩
end
def IC(M:Nat->Prop)(w:World)(n:Nat)(F:Nat->List Tm)(e:Ending)(w':World):Prop:=∃gl:Nat,e=.returned (.slice (some ⟨gl,0,none⟩) n n)/\w.heap.size<=gl/\Kids (λb=>M b\/b=gl) w' 4 gl n F/\Ext w w'
theorem lG.ret{M:Nat->Prop}{w:World}{n gt g12 g13 g14:Nat}{MW:Nat->Prop}{wr:World}{a b s:List Tm}{L F:Nat->List Tm}{za zb zs:PE}(h:lG M w n gt g12 g13 g14 MW wr a b s L za zb zs)(jR:w.heap.size<=gt)(hF:∀i,i<n->ae (L i) (F i)):IC M w n F (.returned (.slice (some ⟨gt,0,none⟩) n n)) wr:=
 ⟨gt,rfl,jR,(h.L.congr hF).more λb hb=>.inl (hb.elim (h.sub b) λe=>by rw[e];exact h.mt),h.e⟩
theorem qwk{P:Nat->Prop}:∀k,P k->∃j,P j/\∀i,P i->j<=i:=by
 intro k
 induction k using Nat.strongRecOn with
 |_ k ih=>
  intro hk
  by_cases h:∃i,P i/\i<k
  ·obtain⟨i,hi,hlt⟩:=h;exact ih i hlt hi
  ·exact⟨k,hk,λi hi=>Nat.le_of_not_lt λhl=>h ⟨i,hi,hl⟩⟩
noncomputable def Vx(P:Nat->Prop):Nat:=Classical.epsilon λk=>P k/\∀j,P j->k<=j
theorem qmh{P:Nat->Prop}{k:Nat}(h:P k):P (Vx P)/\∀j,P j->Vx P<=j:=
 Classical.epsilon_spec (p:=λk=>P k/\∀j,P j->k<=j) (qwk k h)
structure qgr(M':Nat->Prop)(wd W:World)(a b:Nat)(x y:PE)(l r:List Tm):Prop where
 e:Ext wd W
 A:nD (M9 M' (some a) (some b)) W a x l
 B:nD (M9 M' (some a) (some b)) W b y r
 m:Mb (M9 M' (some a) (some b)) W
 la:wd.heap.size<=a
 lb:wd.heap.size<=b
 ne:b≠a
theorem S9.qnA{M':Nat->Prop}{wd wk:World}{a b:Nat}{x y:PE}{l r:List Tm}(h:S9 M' wd wk (some a) (some b))(wU:aI M' wd 4 x l)(hy:aI (M9 M' (some a) (some b)) wk 4 y r):
 ∃W1,W1=aH wk a 0 (.int .i64 x.lv) (.bool x.b) (.slice x.a x.n x.p) (.slice x.ka x.kn x.kp)/\Z4 wk a/\Ry wk a/\Ext wd W1/\Z4 W1 b/\Ry W1 b/\
 ∃W2,W2=aH W1 b 0 (.int .i64 y.lv) (.bool y.b) (.slice y.a y.n y.p) (.slice y.ka y.kn y.kp)/\qgr M' wd W2 a b x y l r:=by
 obtain⟨hB,hw⟩:=h.a a rfl;obtain⟨hB',hw'⟩:=h.b b rfl;have hne:b≠a:=λe=>h.ne a rfl (by rw[e]);have hx:aI (M9 M' (some a) (some b)) wk 4 x l:=(wU.more h.sub).ext h.e;have k1:Kp (M9 M' (some a) (some b)) wk (aH wk a 0 (.int .i64 x.lv) (.bool x.b) (.slice x.a x.n x.p) (.slice x.ka x.kn x.kp)):=Kp.aH (.inr (.inl rfl)) _ _ _ _ _;have b1:=TJ hB x;have b2:=hB'.of_heap (il wk a 0 (.int .i64 x.lv) (.bool x.b) (.slice x.a x.n x.p) (.slice x.ka x.kn x.kp) b hne);have e1:=h.e.aH hw 0 (.int .i64 x.lv) (.bool x.b) (.slice x.a x.n x.p) (.slice x.ka x.kn x.kp);have Ex:=h.mb.size k1.1;have fG:=hx.kp k1;have iy:=hy.kp k1;refine⟨_,rfl,hB.z4,hB.fz4,e1,b2.z4,b2.fz4,_,rfl,?_⟩;generalize aH wk a 0 (.int .i64 x.lv) (.bool x.b) (.slice x.a x.n x.p) (.slice x.ka x.kn x.kp)=W1 at*;have k2:Kp (M9 M' (some a) (some b)) W1 (aH W1 b 0 (.int .i64 y.lv) (.bool y.b) (.slice y.a y.n y.p) (.slice y.ka y.kn y.kp)):=Kp.aH (.inr (.inr rfl)) _ _ _ _ _;exact⟨e1.aH hw' _ _ _ _ _,⟨b1.of_heap (il _ _ _ _ _ _ _ _ (λe=>hne e.symm)),fG.kp k2⟩,⟨TJ b2 y,iy.kp k2⟩,Ex.size k2.1,hw,hw',hne⟩
theorem S9.qcQ{M':Nat->Prop}{wd wk:World}{B:Option Nat}(h:S9 M' wd wk none B):∃v g,wk.alloc (.cells zA 33)=v/\wk.heap.size=g/\S9 M' wd v (some g) B/\∀(x:PE)(l:List Tm),aI (M9 M' none B) wk 4 x l->aI (M9 M' (some g) B) v 4 x l:=⟨_,_,rfl,rfl,h.Oy,λ_ _ k=>h.JB k⟩
theorem S9.qcR{M':Nat->Prop}{wd wk:World}{A:Option Nat}(h:S9 M' wd wk A none):∃v g,wk.alloc (.cells zA 33)=v/\wk.heap.size=g/\S9 M' wd v A (some g)/\∀(x:PE)(l:List Tm),aI (M9 M' A none) wk 4 x l->aI (M9 M' A (some g)) v 4 x l:=⟨_,_,rfl,rfl,h.qqU,λ_ _ k=>h.qwb k⟩
theorem S9.swap{M':Nat->Prop}{wd wk:World}{A B:Option Nat}(h:S9 M' wd wk A B):S9 M' wd wk B A:=⟨h.e,h.m,h.b,h.a,λg hb ha=>h.ne g ha hb⟩
theorem aI.qzm{M':Nat->Prop}{w:World}{A B:Option Nat}{x:PE}{l:List Tm}(h:aI (M9 M' A B) w 4 x l):aI (M9 M' B A) w 4 x l:=h.more λg hg=>.inl (hg.elim .inl λk=>.inr k.symm)
def qo5(M':Nat->Prop)(y:PE)(l r:List Tm)(wd:World)(Rb s14:Value)(wx:World):Prop:=∃(a b:Nat)(z:PE),Rb=.pointer (some ⟨a,0,none⟩)/\s14=.pointer (some ⟨b,0,none⟩)/\qgr M' wd wx a b y z l r
def Nj(M:Nat->Prop)(w:World)(J n gt g12 g13 g14:Nat)(F:Nat->List Tm)(wr:World)(k:Nat):Prop:=∃(MW:Nat->Prop)(a b s:List Tm)(L:Nat->List Tm)(za zb zs:PE),lG M w n gt g12 g13 g14 MW wr a b s L za zb zs/\Nk J n F k a b s L
def II(a b c:Nat)(x y z:PE)(w:World):Prop:=P4 w a x/\P4 w b y/\P4 w c z
theorem II.ext{a b c:Nat}{x y z:PE}{w w':World}(h:II a b c x y z w)(he:Ext w w'):II a b c x y z w':=⟨h.1.ext he,h.2.1.ext he,h.2.2.ext he⟩
def WU(M:Nat->Prop)(w:World)(n gt g12 g13 g14 g17:Nat)(a b s c:List Tm)(L:Nat->List Tm)(za zb zs:PE)(wx:World):Prop:=∃(MW:Nat->Prop)(zc:PE),lG M w n gt g12 g13 g14 MW wx a b s L za zb zs/\nD MW wx g17 zc c/\MW g17
theorem qy9(M:Nat->Prop)(x y:PE)(J m n fuel:Nat)(a b l s r:List Tm)(F:Nat->List Tm)(w:World)(hM:Mb M w)(hn:1<=n)(gY:n<=m)(hm:m<=100)
 (hx:aI M w 4 x a) (hy:aI M w 4 y b) (ld:Iy J b l) (pw:KL l (m-n) s) (rm:IG J a b r) (run:Nk J n F fuel b r s (λ_=>[])):
 Calls Tryz.prog 164 #[.agg (ah x),.agg (ah y),.int .i64 (J:Int),.int .i64 (m:Int),.int .i64 (n:Int)] w (IC M w n F):=by
 obtain⟨i0,hi,hz0,hz1,hz2⟩:=info_parts Tryz.yo;have hE:=((Ext.refl w).alloc (.cells (ah x) 33)).alloc (.cells (ah y) 33);have je:=MI w x y
 have oI:((w.alloc (.cells (ah x) 33)).alloc (.cells (ah y) 33)).heap.size=w.heap.size+2:=by simp
 generalize hW:(w.alloc (.cells (ah x) 33)).alloc (.cells (ah y) 33)=W at*;have HW:=Lib.hid hW;have HE:=Lib.hid hE;have jW:=Lib.hid je;have Kt:=Lib.hid oI;have HM:=Lib.hid hM;have HX:=Lib.hid hx;have HY:=Lib.hid hy;have HLD:=Lib.hid ld;have HPW:=Lib.hid pw;have Yu:=Lib.hid rm;have Yw:=Lib.hid run;have uR:Hid (1<=n/\n<=m/\m<=100):=⟨hn,gY,hm⟩
 have Jn:(n:Int)<=100:=by omega
 have iw:(0:Int)<=(n:Int):=Int.natCast_nonneg _;clear hE je hW oI hM hx hy ld pw rm run hn gY hm
 go_enter Tryz.func164,Tryz.ntmps164
 go_upto_region 1 with(fail)
 rw[HW.out]
 go_wp2_with (first|(at_make;refine Nb _ rfl _ _ _ rfl 33 i0 (.agg #[.int .i64 0,.bool false,.slice none 0 0,.slice none 0 0]) 4 Tryz.underlying31 hi hz0 hz1 .i64 .i64 _ _ n rfl rfl ?c4 ?c5 ?c2 ?c3 ?_))
 case c2=>rw[hz2];omega
 case c3=>unfold maxLen;omega
 case c4=>first|rfl|simp
 case c5=>first|rfl|simp
 have bI:=OA W n 33;have af:=(Ext.refl W).alloc (.cells (madeCells (Value.agg #[.int .i64 0,.bool false,.slice none 0 0,.slice none 0 0]).cells (n*4)) 33);intro w1 hw1;replace hw1:W.alloc (.cells (madeCells (Value.agg #[.int .i64 0,.bool false,.slice none 0 0,.slice none 0 0]).cells (n*4)) 33)=w1:=hw1.out.symm;rw[hw1]at bI af;obtain⟨gt,jR⟩:∃gt,gt=W.heap.size:=⟨_,rfl⟩;obtain⟨g0,rO⟩:∃g0,g0=w.heap.size:=⟨_,rfl⟩;rw[<-jR]at bI⊢;rw[<-rO]at jW⊢;have Ff:Hid (gt=w.heap.size+2):=jR.trans Kt.out;have kW:Hid (Mb (λb=>M b\/b=gt) w1):=mO (HM.out.ext (HE.out.trans af)) bI.lt;have Ku:Hid (Kids (λb=>M b\/b=gt) w1 4 gt n (λ_=>[])):=Kids.fresh bI;have aL:Hid (Ext w w1):=HE.out.trans af
 have sS:∀b,(M b\/b=gt)->M b\/w.heap.size<=b:=λb hb=>hb.imp id λh=>by have:=Ff.out;omega
 have ku:Hid (aI (λb=>M b\/b=gt) w1 4 x a):=(HX.out.more sS).ext aL.out;have qE:Hid (aI (λb=>M b\/b=gt) w1 4 y b):=(HY.out.more sS).ext aL.out;obtain⟨⟨x0,x1,x2,x3⟩,y0,y1,y2,y3⟩:P4 w1 g0 x/\P4 w1 (g0+1) y:=⟨jW.out.1.ext af,jW.out.2.ext af⟩;have KC:Hid (P4 w1 g0 x/\P4 w1 (g0+1) y):=⟨jW.out.1.ext af,jW.out.2.ext af⟩;clear bI af hw1 jR rO jW Kt HM HE HW hi hz0 hz1 hz2 HX HY sS
 have P8:IntKind.i64.wrap ((m:Int)-(n:Int))=((m-n:Nat):Int):=by
  have h:=uR.out;rw[IntWalk.i64_in _ (by omega)];omega
 go_wp2_with (fail);refine(HLD.out _ w1 y kW.out qE.out).mono ?_;rintro e w2 ⟨u,rfl,hu,e2⟩;have aU:=Lib.hid e2;have HU:=Lib.hid hu;obtain⟨⟨x0,x1,x2,x3⟩,y0,y1,y2,y3⟩:P4 w2 g0 x/\P4 w2 (g0+1) y:=⟨KC.out.1.ext e2,KC.out.2.ext e2⟩;clear hu e2;go_wp2_with (fail)
 try rw[P8]
 refine(HPW.out _ w2 u (kW.out.ext aU.out) HU.out).mono ?_;rintro e w3 ⟨v,rfl,hv,e3⟩;have fZ:=(Ext.refl w3).alloc (.cells (ah v) 33);have eP:=Lib.hid ((aU.out.trans e3).trans fZ);have Ur:ak (w3.alloc (.cells (ah v) 33)) w3.heap.size 33 4 (arr (ah v)):=ak.bf w3 (ah v) 33 4 rfl
 have sS:∀q,((M q\/q=gt)\/q=w3.heap.size)->(M q\/q=gt)\/w3.heap.size<=q:=λq hq=>hq.imp id λh=>by omega
 have hV:aI (λq=>(M q\/q=gt)\/q=w3.heap.size) (w3.alloc (.cells (ah v) 33)) 4 v s:=(hv.more sS).ext fZ;have hm4:Mb (λq=>(M q\/q=gt)\/q=w3.heap.size) (w3.alloc (.cells (ah v) 33)):=mO (kW.out.ext ((aU.out.trans e3).trans fZ)) Ur.lt;have qR:w1.heap.size<=w3.heap.size:=(aU.out.trans e3).size;generalize lY:w3.alloc (.cells (ah v) 33)=w4 at*;have Bi:=Lib.hid lY;obtain⟨g12,qbB⟩:∃g12,g12=w3.heap.size:=⟨_,rfl⟩;rw[<-qbB]at Ur sS hV hm4 qR;have qeJ:=Lib.hid qbB;have Ko:Hid (nD (λq=>(M q\/q=gt)\/q=g12) w4 g12 v s):=⟨Ur,hV⟩;have yO:=Lib.hid hm4;have uN:Hid (w.heap.size<=g12/\gt≠g12):=⟨by have:=aL.out.size;omega,by have:=Ku.out.lt;omega⟩
 have U2:∀q,((M q\/q=gt)\/q=g12)->(M q\/q=gt)\/w1.heap.size<=q:=λq hq=>hq.imp id λh=>by omega
 have Dw:Hid (Kids (λq=>(M q\/q=gt)\/q=g12) w4 4 gt n (λ_=>[])):=(Ku.out.more U2).ext eP.out;have Dz:Hid (aI (λq=>(M q\/q=gt)\/q=g12) w4 4 x a):=(ku.out.more U2).ext eP.out;have Ir:Hid (aI (λq=>(M q\/q=gt)\/q=g12) w4 4 y b):=(qE.out.more U2).ext eP.out;have fV:Hid (Ext w w4):=aL.out.trans eP.out;obtain⟨⟨x0,x1,x2,x3⟩,y0,y1,y2,y3⟩:P4 w4 g0 x/\P4 w4 (g0+1) y:=⟨KC.out.1.ext eP.out,KC.out.2.ext eP.out⟩;have Yz:Hid (oC g0 x y w4):=oC.ext KC.out eP.out;obtain⟨M',hM'⟩:∃M':Nat->Prop,M'=λq=>(M q\/q=gt)\/q=g12:=⟨_,rfl⟩;rw[<-hM']at Ko yO Dw Dz Ir
 have Ki:Hid (M' gt/\M' g12/\(∀q,M q->M' q)/\∀q,M' q->M q\/w.heap.size<=q):=by
  rw[hM'];exact⟨.inl (.inr rfl),.inr rfl,λq hq=>.inl (.inl hq),λq hq=>hq.elim (λh=>h.imp id λe=>by have:=Ff.out;omega) λe=>.inr (by have:=uN.out.1;omega)⟩
 clear hv e3 HU aU P8 lY fZ qbB Ur hV hm4 sS U2 hM' KC kW Ku ku qE aL eP qR HLD HPW;have HD:Hid (Ext w w4.drew):=fV.out.trans (Ext.refl _).drew;have jF:Hid (Ext w4 w4.drew):=(Ext.refl _).drew;clear x0 x1 x2 x3 y0 y1 y2 y3
 go_upto_region 3 with(fail)
 rw[Bi.out, <-qeJ.out];clear Bi qeJ;generalize Vh:w4.drew=wD at*
 go_cut [13,14] (qo5 M' y b r wD)
 case first=>
  have Ya:Hid (Mb M' wD):=yO.out.ext jF.out;have sF:Hid (oC g0 x y wD):=Yz.out.ext jF.out;have mr:Hid (aI M' wD 4 x a):=Dz.out.ext jF.out;have DF:Hid (aI M' wD 4 y b):=Ir.out.ext jF.out;have C1:Hid (∀A B W',S9 M' wD W' A B->Calls Tryz.prog 195 #[.agg (ah x),.agg (ah y),.int .i64 (J:Int)] W' (dH (M9 M' A B) W' 4 r)):=λA B W' h=>Yu.out (M9 M' A B) W' x y h.mb ((mr.out.more h.sub).ext h.e) ((DF.out.more h.sub).ext h.e);have S0:=S9.start Ya.out;refine fM (oC g0 x y) 9 (by kernel_rfl) (by rw[Vh];exact sF.out) (λhHeld=>?_);rw[Vh]at hHeld⊢;clear sF jF fV HD Vh Ya Dz Ir Yz Dw Ko yO Yw Ki mr Ff uN Yu;generalize wD=wd at*;(refine dF [0,1,2,3] ?_;(iterate 4 (refine dD (v:=?_) ?_ ?_;rotate_left 1;(intro wS hSw;obtain⟨⟨A0,A1,A2,A3⟩,B0,B1,B2,B3⟩:=hSw;go_simp;try with_reducible rfl);(try simp only[Act.put,aD,aF,aG])));refine dG ?_);have SX:=S0;clear S0;(refine qz5 4 5 6 (oi:=?_) (oj:=?_) (ok:=?_) (by kernel_rfl) ?_ ?_ ?_ ?_ ?_ ?_;rotate_left 3;(simp only[iL,iM,iN];rfl);(simp only[iL,iM,iN];rfl);(simp only[iL,iM,iN];rfl);all_goals intro K hK)
  all_goals(first|(go_simp;refine(C1.out _ _ _ SX).mono ?_;rintro e v ⟨z,rfl,hz,D⟩;go_wp2_with (fail);replace SX:=SX.call D;clear D;(try clear ag);have ag:=hHeld.ext SX.e;refine hK.out _ _ (λ_=>ag) ?_;clear hK K;(try simp only[Act.put,aD,aF,aG]))|(go_simp;(first|obtain⟨v,g,hv,hg,SX,aZ⟩:=SX.qcQ|obtain⟨v,g,hv,hg,SX,aZ⟩:=SX.qcR);(try replace hz:=aZ _ _ hz);rw[hv,hg];clear hv hg aZ;(try clear ag);have ag:=hHeld.ext SX.e;refine hK.out _ _ (λ_=>ag) ?_;clear hK K;(try simp only[Act.put,aD,aF,aG])))
  focus(refine xe 5 6 (oi:=?_) (oj:=?_) (by kernel_rfl) ?_ ?_ ?_ ?_;rotate_left 2;(simp only[iL,iM,iN];rfl);(simp only[iL,iM,iN];rfl);all_goals intro K hK)
  rotate_left 2
  focus(refine xe 4 6 (oi:=?_) (oj:=?_) (by kernel_rfl) ?_ ?_ ?_ ?_;rotate_left 2;(simp only[iL,iM,iN];rfl);(simp only[iL,iM,iN];rfl);all_goals intro K hK)
  rotate_left 2
  focus(refine xe 4 5 (oi:=?_) (oj:=?_) (by kernel_rfl) ?_ ?_ ?_ ?_;rotate_left 2;(simp only[iL,iM,iN];rfl);(simp only[iL,iM,iN];rfl);all_goals intro K hK)
  all_goals(first|(go_simp;refine(C1.out _ _ _ SX).mono ?_;rintro e v ⟨z,rfl,hz,D⟩;go_wp2_with (fail);replace SX:=SX.call D;clear D;(try clear ag);have ag:=hHeld.ext SX.e;refine hK.out _ _ (λ_=>ag) ?_;clear hK K;(try simp only[Act.put,aD,aF,aG]))|(go_simp;(first|obtain⟨v,g,hv,hg,SX,aZ⟩:=SX.qcQ|obtain⟨v,g,hv,hg,SX,aZ⟩:=SX.qcR);(try replace hz:=aZ _ _ hz);rw[hv,hg];clear hv hg aZ;(try clear ag);have ag:=hHeld.ext SX.e;refine hK.out _ _ (λ_=>ag) ?_;clear hK K;(try simp only[Act.put,aD,aF,aG])))
  focus(refine aK 5 ?_;intro K hK)
  rotate_left
  focus(refine aK 4 ?_;intro K hK)
  rotate_left
  focus(refine aK 6 ?_;intro K hK)
  rotate_left
  focus(refine aK 5 ?_;intro K hK)
  rotate_left
  focus(refine aK 6 ?_;intro K hK)
  rotate_left
  focus(refine aK 4 ?_;intro K hK)
  all_goals(first|(go_simp;refine(C1.out _ _ _ SX).mono ?_;rintro e v ⟨z,rfl,hz,D⟩;go_wp2_with (fail);replace SX:=SX.call D;clear D;(try clear ag);have ag:=hHeld.ext SX.e;refine hK.out _ _ (λ_=>ag) ?_;clear hK K;(try simp only[Act.put,aD,aF,aG]))|(go_simp;(first|obtain⟨v,g,hv,hg,SX,aZ⟩:=SX.qcQ|obtain⟨v,g,hv,hg,SX,aZ⟩:=SX.qcR);(try replace hz:=aZ _ _ hz);rw[hv,hg];clear hv hg aZ;(try clear ag);have ag:=hHeld.ext SX.e;refine hK.out _ _ (λ_=>ag) ?_;clear hK K;(try simp only[Act.put,aD,aF,aG])))
  all_goals(first|(obtain⟨W1,hW1,⟨q0,q1,q2,q3⟩,⟨f0,f1,f2,f3⟩,E1,⟨r0,r1,r2,r3⟩,⟨k0,k1,k2,k3⟩,W2,jg,iR⟩:=SX.qnA DF.out hz;unfold aH at hW1 jg;have vB:=hHeld.ext E1;have BQ:=hHeld.ext iR.e;clear ag;(refine aK 7 ?_;intro K hK);go_simp;rw[<-hW1];clear hW1;refine hK.out _ _ (λ_=>vB) ?_;clear hK K q0 q1 q2 q3 f0 f1 f2 f3;(try simp only[Act.put,aD,aF,aG]);(refine aK 8 ?_;intro K hK);go_simp;rw[<-jg];clear jg;refine hK.out _ _ (λ_=>BQ) ?_;clear hK K r0 r1 r2 r3 k0 k1 k2 k3;(try simp only[Act.put,aD,aF,aG]);refine ek ?_;go_wp2_with (fail);go_meet;exact⟨_,_,z,rfl,rfl,iR⟩)|(obtain⟨W1,hW1,⟨q0,q1,q2,q3⟩,⟨f0,f1,f2,f3⟩,E1,⟨r0,r1,r2,r3⟩,⟨k0,k1,k2,k3⟩,W2,jg,iR⟩:=SX.swap.qnA DF.out hz.qzm;unfold aH at hW1 jg;have vB:=hHeld.ext E1;have BQ:=hHeld.ext iR.e;clear ag;(refine aK 7 ?_;intro K hK);go_simp;rw[<-hW1];clear hW1;refine hK.out _ _ (λ_=>vB) ?_;clear hK K q0 q1 q2 q3 f0 f1 f2 f3;(try simp only[Act.put,aD,aF,aG]);(refine aK 8 ?_;intro K hK);go_simp;rw[<-jg];clear jg;refine hK.out _ _ (λ_=>BQ) ?_;clear hK K r0 r1 r2 r3 k0 k1 k2 k3;(try simp only[Act.put,aD,aF,aG]);refine ek ?_;go_wp2_with (fail);go_meet;exact⟨_,_,z,rfl,rfl,iR⟩))
 case rest=>
  obtain⟨g13,g14,zz,rfl,rfl,qQ⟩:=hcut;have H8:Hid (Ext w4 wc):=jF.out.trans qQ.e
  have dZ:∀q,q<w4.heap.size->q≠g13/\q≠g14:=λq hq=>by
   have h1:=jF.out.size;have h2:=qQ.la;have h3:=qQ.lb;constructor<;>omega
  have nI:Hid (Nn w gt g12 g13 g14):=⟨⟨uN.out.2,(dZ gt Dw.out.lt).1,(dZ gt Dw.out.lt).2,(dZ g12 Ko.out.lt).1,(dZ g12 Ko.out.lt).2,λe=>qQ.ne e.symm⟩,by have:=Ff.out;omega,uN.out.1,Nat.le_trans HD.out.size qQ.la,Nat.le_trans HD.out.size qQ.lb⟩
  have sS:∀q,M9 M' (some g13) (some g14) q->M' q\/w4.heap.size<=q:=λq hq=>hq.imp id λh=>by
   have h1:=jF.out.size;have h2:=qQ.la;have h3:=qQ.lb;rcases h with h|h<;>cases h<;>omega
  have qfy:Hid (∃k,Nj M w J n gt g12 g13 g14 F wc k):=⟨fuel,M9 M' (some g13) (some g14),b,r,s,λ_=>[],y,zz,v,⟨qQ.A,qQ.B,(Ko.out.more sS).ext H8.out,(Dw.out.more sS).ext H8.out,qQ.m,fV.out.trans H8.out,λq hq=>.inl (Ki.out.2.2.1 q hq),λq hq=>(sS q hq).elim (Ki.out.2.2.2 q) λh=>.inr (Nat.le_trans fV.out.size h),.inl Ki.out.1,.inl Ki.out.2.1,.inr (.inl rfl),.inr (.inr rfl)⟩,Yw.out⟩;clear qQ dZ sS H8 HD jF fV Dz Ir Yz Dw Ko yO Yw Ki Ff uN Yu Vh;go_wp2
  go_loopw [15] (λ_ wr=>∃k,Nj M w J n gt g12 g13 g14 F wr k) (λ_ wr=>Vx (Nj M w J n gt g12 g13 g14 F wr))
  case atStart=>exact qfy.out
  case round=>
   clear qfy;obtain⟨k0,fJ⟩:=hrel;have iq:=(qmh fJ).1;obtain⟨kk,L6⟩:∃kk,kk=Vx (Nj M w J n gt g12 g13 g14 F wr):=⟨_,rfl⟩;rw[<-L6]at iq;have yM:=Lib.hid L6;clear fJ L6
   cases kk with
   |zero=>
    obtain⟨_,_,_,_,_,_,_,_,_,h⟩:=iq;exact h.elim
   |succ k=>
    obtain⟨MW,a,b,s,L,za,zb,zs,iT,d,BV,hd1,rM,hcs⟩:=iq
    obtain⟨z,hdb,hz⟩:∃z:Int,Nl J b z/\((z= -1/\∀i,i<n->ae (L i) (F i))\/∃(dn e:Nat)(c:List Tm)(L':Nat->List Tm),z=(e:Int)/\d=(dn:Int)/\e<dn/\dn<=n/\WQ J b s (dn-e) e (CW L (dn-1) b) L' c/\
     ((e=0/\∀i,i<n->ae (L' i) (F i))\/(0<e/\∃s1 la dv r b' s',KL s (dn-e) s1/\Iy J a la/\Ti s1 la dv/\IG J a b r/\Tk r dv b'/\Iy J c s'/\Nk J n F k c b' s' L'))):=by
     rcases hcs with⟨h1,h2⟩|⟨dn,e,c,L',h1,h2,h3⟩
     ·exact⟨-1,h1,.inl ⟨rfl,h2⟩⟩
     ·exact⟨(e:Int),h2,.inr ⟨dn,e,c,L',rfl,h1,h3⟩⟩
    have o5:=Lib.hid iT;have HZ:=Lib.hid hz;have yK:Hid (-1<=d/\d<=1000):=⟨hd1,rM⟩;have mq:Hid (qf g13 g14 za zb wr.drew):=qf.ext ⟨iT.A.b.p4,iT.B.b.p4⟩ (Ext.refl _).drew;have C2:Hid (∀wk,Ext wr.drew wk->Calls Tryz.prog 43 #[.agg (ah za),.int .i64 (J:Int)] wk λe w'=>e=.returned (.int .i64 d)/\Ext wk w'):=λwk he=>BV MW wk za (iT.m.ext ((Ext.refl _).drew.trans he)) (iT.A.x.ext ((Ext.refl _).drew.trans he));have C5:Hid (∀wk,Ext wr.drew wk->Calls Tryz.prog 43 #[.agg (ah zb),.int .i64 (J:Int)] wk λe w'=>e=.returned (.int .i64 z)/\Ext wk w'):=λwk he=>hdb MW wk zb (iT.m.ext ((Ext.refl _).drew.trans he)) (iT.B.x.ext ((Ext.refl _).drew.trans he));have lH:Hid (Ext wr wr.drew):=(Ext.refl _).drew;clear iT hz hd1 rM hcs BV hdb
    go_upto_region 4 with(fail)
    refine fM (qf g13 g14 za zb) 8 (by kernel_rfl) mq.out (λhHeld=>?_);obtain⟨wo,Qt⟩:∃wo,wo=wr:=⟨_,rfl⟩;generalize wr.drew=wd at*;(refine dF [0,1,3,4] ?_;(iterate 4 (refine dD (v:=?_) ?_ ?_;rotate_left 1;(intro wS hSw;obtain⟨⟨A0,A1,A2,A3⟩,B0,B1,B2,B3⟩:=hSw;go_simp;try with_reducible rfl);(try simp only[Act.put,aD,aF,aG])));refine dG ?_);((refine aK 2 ?_;intro K hK);go_simp;(refine(C2.out wd (Ext.refl _)).mono ?_);rintro e_ w5 ⟨rfl,e2⟩;go_wp2_with (fail);(try clear ag);(have ag:=hHeld.ext e2);(refine hK.out _ _ (λ_=>ag) ?_);clear hK K;(try simp only[Act.put,aD,aF,aG]));((refine aK 5 ?_;intro K hK);go_simp;(refine(C5.out w5 e2).mono ?_);rintro e_ w6 ⟨rfl,e5⟩;go_wp2_with (fail);(try clear ag);(have ag:=hHeld.ext (e2.trans e5));(refine hK.out _ _ (λ_=>ag) ?_);clear hK K;(try simp only[Act.put,aD,aF,aG]));(refine dF [6,7] ?_;(iterate 2 (refine dD (v:=?_) ?_ ?_;rotate_left 1;(intro wS hSw;obtain⟨⟨A0,A1,A2,A3⟩,B0,B1,B2,B3⟩:=hSw;go_simp;try with_reducible rfl);(try simp only[Act.put,aD,aF,aG])));refine dG ?_);refine ek ?_;have Il:=Lib.hid (o5.out.ext (lH.out.trans (e2.trans e5)));clear hHeld ag e2 e5 mq C2 C5 lH o5 Qt;rcases HZ.out with⟨rfl,hF⟩|⟨dn,e,c,L',rfl,rfl,jA,lZ,wI,qbz⟩
    ·have HF:Hid (IC M w n F (.returned (.slice (some ⟨gt,0,none⟩) n n)) w6):=Il.out.ret nI.out.2.1 hF;clear hF Il HZ yK yM nI uR;go_wp2;go_ret;exact HF.out
    ·obtain⟨D,hD⟩:∃D,dn=D+1:=⟨dn-1,by omega⟩;have RQ:Hid (D<n/\dn=D+1):=⟨by omega,hD⟩
     have hDn:(D:Int)<(n:Int):=by omega
     have uu:(0:Int)<=(D:Int):=Int.natCast_nonneg _;have kM:(0:Int)<=(e:Int):=Int.natCast_nonneg _
     have hwr:IntKind.i64.wrap ((dn:Int)-1)=(D:Int):=by rw[IntWalk.i64_in _ (by omega)];omega
     obtain⟨G,hG⟩:∃G,G=dn-e:=⟨_,rfl⟩
     have Qs:IntKind.i64.wrap ((dn:Int)-(e:Int))=(G:Int):=by rw[IntWalk.i64_in _ (by omega)];omega
     have oq:Hid (1<=G/\G<=100/\e<n):=⟨by omega,by omega,by omega⟩;rw[<-hG]at wI qbz
     have zn:dn-1=D:=by omega
     rw[zn]at wI;have RI:=Lib.hid wI;have ND:=Lib.hid qbz;clear wI qbz hG zn jA lZ hD HZ yK;obtain⟨⟨_,q0⟩,⟨_,q1⟩,⟨_,q2⟩,⟨_,q3⟩,dI,_⟩:=Il.out.L.at D RQ.out.1;have f0:=dI (D*4);have f1:=dI (D*4+1);have f2:=dI (D*4+2);have f3:=dI (D*4+3);have qco:=Il.out.list nI.out RQ.out.1 Il.out.B.x;obtain⟨W7,UD⟩:∃W7,W7=aH w6 gt (D*4) (.int .i64 zb.lv) (.bool zb.b) (.slice zb.a zb.n zb.p) (.slice zb.ka zb.kn zb.kp):=⟨_,rfl⟩;rw[<-UD]at qco;unfold aH at UD;have HW7:=Lib.hid UD;have Dt:=Lib.hid qco;clear qco UD dI;obtain⟨B0,B1,B2,B3⟩:=Il.out.B.b.p4;clear Il
     go_upto_region 8 with(fail)
     try rw[<-HW7.out]
     clear HW7 q0 q1 q2 q3 f0 f1 f2 f3 B0 B1 B2 B3;obtain⟨b0,b1,b2,b3⟩:=Dt.out.B.b.p4;have fZ:=(Ext.refl W7).alloc (.cells (ah zb) 33);have O4:ak (W7.alloc (.cells (ah zb) 33)) W7.heap.size 33 4 (arr (ah zb)):=ak.bf W7 (ah zb) 33 4 rfl;obtain⟨W8,vD⟩:∃W8,W8=W7.alloc (.cells #[.int .i64 zb.lv,.bool zb.b,.slice zb.a zb.n zb.p,.slice zb.ka zb.kn zb.kp] 33):=⟨_,rfl⟩;have hWP:W7.alloc (.cells (ah zb) 33)=W8:=vD.symm;rw[hWP]at fZ O4;have qcp:=Dt.out.more fZ (g:=W7.heap.size) (Nat.le_refl _) O4.lt;have hx8:aI (λq=>MW q\/q=W7.heap.size) W8 4 zb b:=(Dt.out.B.x.more λq hq=>hq.imp id λh=>by omega).ext fZ;have nJ:Hid (W7.heap.size≠gt/\W7.heap.size≠g12/\W7.heap.size≠g13/\W7.heap.size≠g14/\w.heap.size<=W7.heap.size):=⟨by have:=Dt.out.L.lt;omega,by have:=Dt.out.S.lt;omega,by have:=Dt.out.A.lt;omega,by have:=Dt.out.B.lt;omega,Dt.out.e.size⟩;have FB:=Lib.hid vD;obtain⟨g17,qbC⟩:∃g17,g17=W7.heap.size:=⟨_,rfl⟩;rw[<-qbC]at qcp hx8 O4 nJ;have qeK:=Lib.hid qbC;have Du:=Lib.hid qcp;have AP:Hid (nD (λq=>MW q\/q=g17) W8 g17 zb b):=⟨O4,hx8⟩;have jh:Hid ((λq=>MW q\/q=g17) g17):=.inr rfl;obtain⟨MX,hMX⟩:∃MX:Nat->Prop,MX=λq=>MW q\/q=g17:=⟨_,rfl⟩;rw[<-hMX]at Du AP jh;clear vD qbC qcp hx8 O4 fZ hWP hMX Dt
     go_upto_if 53 with(fail)
     rw[<-FB.out, <-qeK.out];clear FB qeK b0 b1 b2 b3
     go_cut [17] (λs17 wx=>s17=.pointer (some ⟨g17,0,none⟩)/\WU M w n gt g12 g13 g14 g17 a b s c L' za zb zs wx)
     case first=>
      rcases RI.out with⟨mI,rfl,rfl⟩|⟨mI,rfl,lb,p,c0,qq,nT,hp,mH,hqq,hqo⟩
      ·have zw:¬1<(G:Int):=by omega
       have HF:Hid (WU M w n gt g12 g13 g14 g17 a c s c (CW L D c) za zb zs W8):=⟨MX,zb,Du.out,AP.out,jh.out⟩;clear RI ND Du AP jh yM nJ nI uR mI;go_wp2
       go_meet
       exact⟨rfl,HF.out⟩
      ·have zw:1<(G:Int):=by omega
       have qCE:IntKind.i64.wrap ((G:Int)-1)=((G-1:Nat):Int):=by have:=oq.out;rw[IntWalk.i64_in _ (by omega)];omega
       have HLB:=Lib.hid nT;have HP:=Lib.hid hp;have oM:=Lib.hid mH;have HQQ:=Lib.hid hqq;have HQO:=Lib.hid hqo;clear nT hp mH hqq hqo mI RI
       go_upto_region 10 with(fail)
       have lH:Hid (Ext W8 W8.drew):=(Ext.refl _).drew;have mq:Hid (qf g14 g17 zb zb W8.drew):=qf.ext ⟨Du.out.B.b.p4,AP.out.b.p4⟩ (Ext.refl _).drew;have Fp:=Lib.hid Du.out.m;have KA:=Lib.hid Du.out.B.x;have C2:Hid (∀wk,Ext W8.drew wk->Calls Tryz.prog 117 #[.agg (ah zb),.int .i64 (J:Int)] wk (dH MX wk 4 lb)):=λwk he=>HLB.out MX wk zb (Fp.out.ext ((Ext.refl _).drew.trans he)) (KA.out.ext ((Ext.refl _).drew.trans he));have C5:Hid (∀wk u,Ext W8.drew wk->aI MX wk 4 u lb->Calls Tryz.prog 53 #[.agg (ah u),.int .i64 ((G-1:Nat):Int)] wk (dH MX wk 4 p)):=λwk u he hu=>HP.out MX wk u (Fp.out.ext ((Ext.refl _).drew.trans he)) hu;have C7:Hid (∀wk u,Ext W8.drew wk->aI MX wk 4 u p->Calls Tryz.prog 55 #[.agg (ah u),.agg (ah zb)] wk (dH MX wk 4 c0)):=λwk u he hu=>oM.out MX wk u zb (Fp.out.ext ((Ext.refl _).drew.trans he)) hu (KA.out.ext ((Ext.refl _).drew.trans he));refine fM (qf g14 g17 zb zb) 8 (by kernel_rfl) mq.out (λhHeld=>?_);generalize W8.drew=wd at*;(refine dF [0,1,3,4,6] ?_;(iterate 5 (refine dD (v:=?_) ?_ ?_;rotate_left 1;(intro wS hSw;obtain⟨⟨A0,A1,A2,A3⟩,B0,B1,B2,B3⟩:=hSw;go_simp;try with_reducible rfl);(try simp only[Act.put,aD,aF,aG])));refine dG ?_);((refine aK 2 ?_;intro K hK);go_simp;(refine(C2.out wd (Ext.refl _)).mono ?_);rintro e_ w9 ⟨u,rfl,hu,e2⟩;go_wp2_with (fail);(try clear ag);(have ag:=hHeld.ext e2);(refine hK.out _ _ (λ_=>ag) ?_);clear hK K;(try simp only[Act.put,aD,aF,aG]))
       ((refine aK 5 ?_;intro K hK);go_simp;(refine(C5.out w9 u e2 hu).mono ?_);rintro e_ fU ⟨v2,rfl,hv2,e5⟩;go_wp2_with (fail);(try clear ag);(have ag:=hHeld.ext (e2.trans e5));(refine hK.out _ _ (λ_=>ag) ?_);clear hK K;(try simp only[Act.put,aD,aF,aG]));((refine aK 7 ?_;intro K hK);go_simp;(refine(C7.out fU v2 (e2.trans e5) hv2).mono ?_);rintro e_ vO ⟨v3,rfl,GJ,e7⟩;go_wp2_with (fail);(try clear ag);(have ag:=hHeld.ext ((e2.trans e5).trans e7));(refine hK.out _ _ (λ_=>ag) ?_);clear hK K;(try simp only[Act.put,aD,aF,aG]));have xU:=lH.out.trans ((e2.trans e5).trans e7);have Ab:=Du.out.ext xU;have wE:=AP.out.ext xU;have ym:=Ab.beside jh.out nJ.out v3;have Je:=wE.put jh.out GJ;obtain⟨q0,q1,q2,q3⟩:=wE.b.p4;have dI:=wE.b.frozen;have f0:=dI 0;have f1:=dI 1;have f2:=dI 2;have f3:=dI 3;obtain⟨xM,Ec⟩:∃xM,xM=aH vO g17 0 (.int .i64 v3.lv) (.bool v3.b) (.slice v3.a v3.n v3.p) (.slice v3.ka v3.kn v3.kp):=⟨_,rfl⟩;rw[<-Ec]at ym Je;unfold aH at Ec;have Og:=Lib.hid Ec;have Be:=Lib.hid ym;have RA:=Lib.hid Je;clear xU Ab wE ym Je Ec dI hu hv2 GJ e2 e5 e7 C2 C5 C7 mq KA Fp lH Du AP;(refine aK 8 ?_;intro K hK);go_simp;rw[<-Og.out];refine hK.out _ _ (λh=>absurd rfl h) ?_;clear hK K Og q0 q1 q2 q3 f0 f1 f2 f3 ag;refine ek ?_;clear hHeld;have lH:Hid (Ext xM xM.drew):=(Ext.refl _).drew
       have mq:Hid (qf g17 g12 v3 zs xM.drew):=qf.ext ⟨RA.out.b.p4,Be.out.S.b.p4⟩ (Ext.refl _).drew;have Fp:=Lib.hid Be.out.m;have yV:=Lib.hid Be.out.S.x;have DC:=Lib.hid RA.out.x;have C4:Hid (∀wk,Ext xM.drew wk->Calls Tryz.prog 53 #[.agg (ah zs),.int .i64 ((G-1:Nat):Int)] wk (dH MX wk 4 qq)):=λwk he=>HQQ.out MX wk zs (Fp.out.ext ((Ext.refl _).drew.trans he)) (yV.out.ext ((Ext.refl _).drew.trans he));have C5:Hid (∀wk u,Ext xM.drew wk->aI MX wk 4 u qq->Calls Tryz.prog 196 #[.agg (ah v3),.agg (ah u)] wk (dH MX wk 4 c)):=λwk u he hu=>HQO.out MX wk v3 u (Fp.out.ext ((Ext.refl _).drew.trans he)) (DC.out.ext ((Ext.refl _).drew.trans he)) hu
       go_upto_region 11 with(fail)
       refine fM (qf g17 g12 v3 zs) 6 (by kernel_rfl) mq.out (λhHeld=>?_);generalize xM.drew=wd at*;(refine dF [0,1,2,3] ?_;(iterate 4 (refine dD (v:=?_) ?_ ?_;rotate_left 1;(intro wS hSw;obtain⟨⟨A0,A1,A2,A3⟩,B0,B1,B2,B3⟩:=hSw;go_simp;try with_reducible rfl);(try simp only[Act.put,aD,aF,aG])));refine dG ?_);((refine aK 4 ?_;intro K hK);go_simp;(refine(C4.out wd (Ext.refl _)).mono ?_);rintro e_ w9 ⟨u,rfl,hu,e2⟩;go_wp2_with (fail);(try clear ag);(have ag:=hHeld.ext e2);(refine hK.out _ _ (λ_=>ag) ?_);clear hK K;(try simp only[Act.put,aD,aF,aG]));((refine aK 5 ?_;intro K hK);go_simp;(refine(C5.out w9 u e2 hu).mono ?_);rintro e_ fU ⟨v4,rfl,Qp,e5⟩;go_wp2_with (fail);(try clear ag);(have ag:=hHeld.ext (e2.trans e5));(refine hK.out _ _ (λ_=>ag) ?_);clear hK K;(try simp only[Act.put,aD,aF,aG]));have xU:=lH.out.trans (e2.trans e5);have Ab:=Be.out.ext xU;have wE:=RA.out.ext xU;have ym:=Ab.beside jh.out nJ.out v4;have Je:=wE.put jh.out Qp;obtain⟨q0,q1,q2,q3⟩:=wE.b.p4;have dI:=wE.b.frozen;have f0:=dI 0;have f1:=dI 1;have f2:=dI 2;have f3:=dI 3;obtain⟨FK,Ed⟩:∃FK,FK=aH fU g17 0 (.int .i64 v4.lv) (.bool v4.b) (.slice v4.a v4.n v4.p) (.slice v4.ka v4.kn v4.kp):=⟨_,rfl⟩;rw[<-Ed]at ym Je;unfold aH at Ed;have Oh:=Lib.hid Ed;have Bf:=Lib.hid ym;have RB:=Lib.hid Je
       clear xU Ab wE ym Je Ed dI hu Qp e2 e5 C4 C5 mq yV DC Fp lH Be RA;(refine aK 6 ?_;intro K hK);go_simp;rw[<-Oh.out];refine hK.out _ _ (λh=>absurd rfl h) ?_;clear hK K Oh q0 q1 q2 q3 f0 f1 f2 f3 ag;refine ek ?_;clear hHeld
       have wL:(e:Int)<(n:Int):=by have:=oq.out;omega
       obtain⟨⟨_,q0⟩,⟨_,q1⟩,⟨_,q2⟩,⟨_,q3⟩,dI,_⟩:=Bf.out.L.at e oq.out.2.2;have f0:=dI (e*4);have f1:=dI (e*4+1);have f2:=dI (e*4+2);have f3:=dI (e*4+3);have GH:=Bf.out.list nI.out oq.out.2.2 RB.out.x;have qkx:=il FK gt (e*4) (.int .i64 v4.lv) (.bool v4.b) (.slice v4.a v4.n v4.p) (.slice v4.ka v4.kn v4.kp) g17 nJ.out.1;have qbl:=RB.out.other (Kp.aH Bf.out.mt (e*4) (.int .i64 v4.lv) (.bool v4.b) (.slice v4.a v4.n v4.p) (.slice v4.ka v4.kn v4.kp)) qkx;obtain⟨nK,F9⟩:∃nK,nK=aH FK gt (e*4) (.int .i64 v4.lv) (.bool v4.b) (.slice v4.a v4.n v4.p) (.slice v4.ka v4.kn v4.kp):=⟨_,rfl⟩;rw[<-F9]at GH qbl;unfold aH at F9;have Oi:=Lib.hid F9;have HF:Hid (WU M w n gt g12 g13 g14 g17 a b s c (CW (CW L D b) e c) za zb zs nK):=⟨MX,v4,GH,qbl,jh.out⟩;obtain⟨C0,C1,C2,C3⟩:=RB.out.b.p4;clear GH qbl qkx F9 dI Bf RB ND yM nJ nI uR jh HLB HP oM HQQ HQO;go_wp2;rw[<-Oi.out];clear Oi q0 q1 q2 q3 f0 f1 f2 f3 C0 C1 C2 C3
       go_meet
       exact⟨rfl,HF.out⟩
     case rest=>
      obtain⟨wo,rfl⟩:∃wo,wo=wc:=⟨_,rfl⟩;obtain⟨rfl,MX,zc,qlm,hb9,qkQ⟩:=hcut;have xD:=Lib.hid qlm;have Nw:=Lib.hid hb9;have qfd:=Lib.hid qkQ;clear qlm hb9 qkQ RI Du AP jh;rcases ND.out with⟨rfl,hF⟩|⟨he,s1,la,dv,r9,b',s',dP,zV,hdv,Qg,hb',kC,hrun⟩
      ·have HF:Hid (IC M w n F (.returned (.slice (some ⟨gt,0,none⟩) n n)) wo):=xD.out.ret nI.out.2.1 hF;clear hF xD Nw ND yM nI uR oq;go_wp2;go_ret;exact HF.out
      ·have uf:=Lib.hid dP;have Kg:=Lib.hid zV;have om:=Lib.hid hdv;have Yt:=Lib.hid Qg;have Xp:=Lib.hid hb';have N9:=Lib.hid kC;have Yv:=Lib.hid hrun
       have qk2:¬(e:Int)=0:=by omega
       have qCj:((e:Int)==0)=false:=beq_eq_false_iff_ne.2 qk2;clear dP zV hdv Qg hb' kC hrun ND he
       go_upto_region 15 with(fail)
       have dL:=Lib.hid xD.out.m;have Kz:=Lib.hid xD.out.A.x;have yV:=Lib.hid xD.out.S.x;have lH:Hid (Ext wo wo.drew):=(Ext.refl _).drew
       go_cut [19] (qo4 MX dv wo.drew)
       case first=>
        have mq:Hid (qf g12 g13 zs za wo.drew):=qf.ext ⟨xD.out.S.b.p4,xD.out.A.b.p4⟩ lH.out;have S0:S9 MX wo.drew wo.drew none none:=S9.start (dL.out.ext lH.out);have C2:Hid (∀A B W',S9 MX wo.drew W' A B->Calls Tryz.prog 53 #[.agg (ah zs),.int .i64 (G:Int)] W' (dH (M9 MX A B) W' 4 s1)):=λA B W' h=>uf.out (M9 MX A B) W' zs h.mb (((yV.out.ext lH.out).more h.sub).ext h.e);have C5:Hid (∀A B W',S9 MX wo.drew W' A B->Calls Tryz.prog 117 #[.agg (ah za),.int .i64 (J:Int)] W' (dH (M9 MX A B) W' 4 la)):=λA B W' h=>Kg.out (M9 MX A B) W' za h.mb (((Kz.out.ext lH.out).more h.sub).ext h.e);have C6:Hid (∀A B W',S9 MX wo.drew W' A B->∀p:PE,aI (M9 MX A B) W' 4 p s1->∀q:PE,aI (M9 MX A B) W' 4 q la->Calls Tryz.prog 55 #[.agg (ah p),.agg (ah q)] W' (dH (M9 MX A B) W' 4 dv)):=λA B W' h p hp q hq=>om.out (M9 MX A B) W' p q h.mb hp hq;refine fM (qf g12 g13 zs za) 9 (by kernel_rfl) mq.out (λhHeld=>?_);clear xD Nw qfd dL Kz yV mq uf Kg om Yt Xp N9 Yv yM nJ nI uR oq RQ qk2;generalize wo.drew=wd at*;(refine dF [0,1,3,4] ?_;(iterate 4 (refine dD (v:=?_) ?_ ?_;rotate_left 1;(intro wS hSw;obtain⟨⟨A0,A1,A2,A3⟩,B0,B1,B2,B3⟩:=hSw;go_simp;try with_reducible rfl);(try simp only[Act.put,aD,aF,aG])));refine dG ?_);(refine xe 2 7 (oi:=?_) (oj:=?_) (by kernel_rfl) ?_ ?_ ?_ ?_;rotate_left 2;(simp only[iL,iM,iN];rfl);(simp only[iL,iM,iN];rfl);all_goals intro K hK)
        ·go_simp;refine(C2.out _ _ wd S0).mono ?_;rintro e v1 ⟨p,rfl,hp,D⟩;go_wp2_with (fail);have S1:=S0.call D;clear D
         try clear ag
         have ag:=hHeld.ext S1.e;refine hK.out _ _ (λ_=>ag) ?_;clear hK K;(try simp only[Act.put,aD,aF,aG]);(refine xe 5 7 (oi:=?_) (oj:=?_) (by kernel_rfl) ?_ ?_ ?_ ?_;rotate_left 2;(simp only[iL,iM,iN];rfl);(simp only[iL,iM,iN];rfl);all_goals intro K hK)
         ·go_simp;refine(C5.out _ _ v1 S1).mono ?_;rintro e v2 ⟨q,rfl,hq,D⟩;go_wp2_with (fail);have S2:=S1.call D;replace hp:=hp.ext D;clear D
          try clear ag
          have ag:=hHeld.ext S2.e;refine hK.out _ _ (λ_=>ag) ?_;clear hK K;(try simp only[Act.put,aD,aF,aG]);(refine xe 6 7 (oi:=?_) (oj:=?_) (by kernel_rfl) ?_ ?_ ?_ ?_;rotate_left 2;(simp only[iL,iM,iN];rfl);(simp only[iL,iM,iN];rfl);all_goals intro K hK)
          ·go_simp;refine(C6.out _ _ v2 S2 _ hp _ hq).mono ?_;rintro e v3 ⟨v,rfl,hv,D⟩;go_wp2_with (fail);have S3:=S2.call D;replace hp:=hp.ext D;replace hq:=hq.ext D;clear D
           try clear ag
           have ag:=hHeld.ext S3.e;refine hK.out _ _ (λ_=>ag) ?_;clear hK K;(try simp only[Act.put,aD,aF,aG]);(refine aK 7 ?_;intro K hK);go_simp;have S4:=S3.Oy;replace hp:=S3.JB hp;replace hq:=S3.JB hq;replace hv:=S3.JB hv
           try clear ag
           have ag:=hHeld.ext S4.e;refine hK.out _ _ (λ_=>ag) ?_;clear hK K;(try simp only[Act.put,aD,aF,aG]);generalize v3.alloc (.cells zA 33)=v4 at*;generalize v3.heap.size=g4 at*;obtain⟨W1,hW1,⟨q0,q1,q2,q3⟩,⟨f0,f1,f2,f3⟩,iR⟩:=S4.VV hv;unfold aH at hW1;have vB:=hHeld.ext iR.e;clear ag;(refine aK 8 ?_;intro K hK);go_simp;rw[<-hW1];clear hW1;refine hK.out _ _ (λ_=>vB) ?_;clear hK K q0 q1 q2 q3 f0 f1 f2 f3;(try simp only[Act.put,aD,aF,aG]);refine ek ?_;go_wp2_with (fail)
           go_meet
           exact⟨_,_,rfl,iR⟩
          ·go_simp;have S5:=S2.Oy;replace hp:=S2.JB hp;replace hq:=S2.JB hq
           try clear ag
           have ag:=hHeld.ext S5.e;refine hK.out _ _ (λ_=>ag) ?_;clear hK K;(try simp only[Act.put,aD,aF,aG]);generalize v2.alloc (.cells zA 33)=v5 at*;generalize v2.heap.size=g5 at*;(refine aK 6 ?_;intro K hK);go_simp;refine(C6.out _ _ v5 S5 _ hp _ hq).mono ?_;rintro e v6 ⟨v,rfl,hv,D⟩;go_wp2_with (fail);have S6:=S5.call D;replace hp:=hp.ext D;replace hq:=hq.ext D;clear D
           try clear ag
           have ag:=hHeld.ext S6.e;refine hK.out _ _ (λ_=>ag) ?_;clear hK K;(try simp only[Act.put,aD,aF,aG]);obtain⟨W1,hW1,⟨q0,q1,q2,q3⟩,⟨f0,f1,f2,f3⟩,iR⟩:=S6.VV hv;unfold aH at hW1;have vB:=hHeld.ext iR.e;clear ag;(refine aK 8 ?_;intro K hK);go_simp;rw[<-hW1];clear hW1;refine hK.out _ _ (λ_=>vB) ?_;clear hK K q0 q1 q2 q3 f0 f1 f2 f3;(try simp only[Act.put,aD,aF,aG]);refine ek ?_;go_wp2_with (fail)
           go_meet
           exact⟨_,_,rfl,iR⟩
         ·go_simp;have S7:=S1.Oy;replace hp:=S1.JB hp
          try clear ag
          have ag:=hHeld.ext S7.e;refine hK.out _ _ (λ_=>ag) ?_;clear hK K;(try simp only[Act.put,aD,aF,aG]);generalize v1.alloc (.cells zA 33)=v7 at*;generalize v1.heap.size=g7 at*;(refine aK 5 ?_;intro K hK);go_simp;refine(C5.out _ _ v7 S7).mono ?_;rintro e v8 ⟨q,rfl,hq,D⟩;go_wp2_with (fail);have S8:=S7.call D;replace hp:=hp.ext D;clear D
          try clear ag
          have ag:=hHeld.ext S8.e;refine hK.out _ _ (λ_=>ag) ?_;clear hK K;(try simp only[Act.put,aD,aF,aG]);(refine aK 6 ?_;intro K hK);go_simp;refine(C6.out _ _ v8 S8 _ hp _ hq).mono ?_;rintro e v9 ⟨v,rfl,hv,D⟩;go_wp2_with (fail);have S9:=S8.call D;replace hp:=hp.ext D;replace hq:=hq.ext D;clear D
          try clear ag
          have ag:=hHeld.ext S9.e;refine hK.out _ _ (λ_=>ag) ?_;clear hK K;(try simp only[Act.put,aD,aF,aG]);obtain⟨W1,hW1,⟨q0,q1,q2,q3⟩,⟨f0,f1,f2,f3⟩,iR⟩:=S9.VV hv;unfold aH at hW1;have vB:=hHeld.ext iR.e;clear ag;(refine aK 8 ?_;intro K hK);go_simp;rw[<-hW1];clear hW1;refine hK.out _ _ (λ_=>vB) ?_;clear hK K q0 q1 q2 q3 f0 f1 f2 f3;(try simp only[Act.put,aD,aF,aG]);refine ek ?_;go_wp2_with (fail)
          go_meet
          exact⟨_,_,rfl,iR⟩
        ·go_simp;have vZ:=S0.Oy
         try clear ag
         have ag:=hHeld.ext vZ.e;refine hK.out _ _ (λ_=>ag) ?_;clear hK K;(try simp only[Act.put,aD,aF,aG]);generalize wd.alloc (.cells zA 33)=v10 at*;generalize wd.heap.size=g10 at*;(refine aK 2 ?_;intro K hK);go_simp;refine(C2.out _ _ v10 vZ).mono ?_;rintro e v11 ⟨p,rfl,hp,D⟩;go_wp2_with (fail);have yZ:=vZ.call D;clear D
         try clear ag
         have ag:=hHeld.ext yZ.e;refine hK.out _ _ (λ_=>ag) ?_;clear hK K;(try simp only[Act.put,aD,aF,aG]);(refine aK 5 ?_;intro K hK);go_simp;refine(C5.out _ _ v11 yZ).mono ?_;rintro e v12 ⟨q,rfl,hq,D⟩;go_wp2_with (fail);have wh:=yZ.call D;replace hp:=hp.ext D;clear D
         try clear ag
         have ag:=hHeld.ext wh.e;refine hK.out _ _ (λ_=>ag) ?_;clear hK K;(try simp only[Act.put,aD,aF,aG]);(refine aK 6 ?_;intro K hK);go_simp;refine(C6.out _ _ v12 wh _ hp _ hq).mono ?_;rintro e v13 ⟨v,rfl,hv,D⟩;go_wp2_with (fail);have Tv:=wh.call D;replace hp:=hp.ext D;replace hq:=hq.ext D;clear D
         try clear ag
         have ag:=hHeld.ext Tv.e;refine hK.out _ _ (λ_=>ag) ?_;clear hK K;(try simp only[Act.put,aD,aF,aG]);obtain⟨W1,hW1,⟨q0,q1,q2,q3⟩,⟨f0,f1,f2,f3⟩,iR⟩:=Tv.VV hv;unfold aH at hW1;have vB:=hHeld.ext iR.e;clear ag;(refine aK 8 ?_;intro K hK);go_simp;rw[<-hW1];clear hW1;refine hK.out _ _ (λ_=>vB) ?_;clear hK K q0 q1 q2 q3 f0 f1 f2 f3;(try simp only[Act.put,aD,aF,aG]);refine ek ?_;go_wp2_with (fail)
         go_meet
         exact⟨_,_,rfl,iR⟩
       case rest=>
        obtain⟨g19,zv,rfl,qQ⟩:=hcut;have hXW:Ext wo wc:=lH.out.trans qQ.e;have Ik:=Lib.hid (xD.out.ext hXW);have Hz:=Lib.hid (Nw.out.ext hXW);have Yh:=Lib.hid qQ.p;have qf6:=Lib.hid qQ.x
        have qff:Hid (g19≠g13/\g19≠g14/\g19≠g17):=by
         have h1:=lH.out.size;have h2:=qQ.f;have h3:=xD.out.A.lt;have h4:=xD.out.B.lt;have h5:=Nw.out.lt;exact⟨by omega,by omega,by omega⟩
        clear qQ hXW xD Nw dL Kz yV lH uf Kg om;have lH:Hid (Ext wc wc.drew):=(Ext.refl _).drew;have mq:Hid (II g17 g14 g19 zc zb zv wc.drew):=II.ext ⟨Hz.out.b.p4,Ik.out.B.b.p4,Yh.out⟩ (Ext.refl _).drew;have dL:=Lib.hid Ik.out.m;have Kz:=Lib.hid Ik.out.A.x;have KA:=Lib.hid Ik.out.B.x;have C4:Hid (∀wk,Ext wc.drew wk->Calls Tryz.prog 195 #[.agg (ah za),.agg (ah zb),.int .i64 (J:Int)] wk (dH MX wk 4 r9)):=λwk he=>Yt.out MX wk za zb (dL.out.ext (lH.out.trans he)) (Kz.out.ext (lH.out.trans he)) (KA.out.ext (lH.out.trans he));have C6:Hid (∀wk u,Ext wc.drew wk->aI MX wk 4 u r9->Calls Tryz.prog 196 #[.agg (ah u),.agg (ah zv)] wk (dH MX wk 4 b')):=λwk u he hu=>Xp.out MX wk u zv (dL.out.ext (lH.out.trans he)) hu (qf6.out.ext (lH.out.trans he));have Nu:Hid (P4 wc.drew g13 za):=Ik.out.A.b.p4.ext lH.out;clear Kz KA dL Yt Xp
        go_upto_region 16 with(fail)
        refine fM (II g17 g14 g19 zc zb zv) 8 (by kernel_rfl) mq.out (λhHeld=>?_);generalize wc.drew=wd at*;(refine dF [0,2,3,5] ?_;(iterate 4 (refine dD (v:=?_) ?_ ?_;rotate_left 1;(intro wS hSw;obtain⟨⟨A0,A1,A2,A3⟩,⟨B0,B1,B2,B3⟩,D0,D1,D2,D3⟩:=hSw;go_simp;try with_reducible rfl);(try simp only[Act.put,aD,aF,aG])));refine dG ?_);obtain⟨a0,a1,a2,a3⟩:=Nu.out;(refine aK 1 ?_;intro K hK);go_simp;refine hK.out _ _ (λ_=>hHeld) ?_;clear hK K a0 a1 a2 a3 Nu;(try simp only[Act.put,aD,aF,aG]);((refine aK 4 ?_;intro K hK);go_simp;(refine(C4.out wd (Ext.refl _)).mono ?_);rintro e_ w9 ⟨u,rfl,hu,e2⟩;go_wp2_with (fail);(try clear ag);(have ag:=hHeld.ext e2);(refine hK.out _ _ (λ_=>ag) ?_);clear hK K;(try simp only[Act.put,aD,aF,aG]));((refine aK 6 ?_;intro K hK);go_simp;(refine(C6.out w9 u e2 hu).mono ?_);rintro e_ fU ⟨v5,rfl,Vg,e5⟩;go_wp2_with (fail);(try clear ag);(have ag:=hHeld.ext (e2.trans e5));(refine hK.out _ _ (λ_=>ag) ?_);clear hK K;(try simp only[Act.put,aD,aF,aG]));have xU:=lH.out.trans (e2.trans e5);have Ab:=Ik.out.ext xU;have wE:=Hz.out.ext xU;have ym:=Ab.qxX nI.out wE.x;have qcu:=Vg.kp (Kp.aH Ab.m3 0 (.int .i64 zc.lv) (.bool zc.b) (.slice zc.a zc.n zc.p) (.slice zc.ka zc.kn zc.kp));have hh:=λq=>il fU g13 0 (.int .i64 zc.lv) (.bool zc.b) (.slice zc.a zc.n zc.p) (.slice zc.ka zc.kn zc.kp) q
        have qa9:II g17 g14 g19 zc zb zv (aH fU g13 0 (.int .i64 zc.lv) (.bool zc.b) (.slice zc.a zc.n zc.p) (.slice zc.ka zc.kn zc.kp)):=⟨rW wE.b.p4 (hh g17 nJ.out.2.2.1),ym.B.b.p4,rW (Yh.out.ext xU) (hh g19 qff.out.1)⟩;obtain⟨q0,q1,q2,q3⟩:=Ab.A.b.p4;have dI:=Ab.A.b.frozen;have f0:=dI 0;have f1:=dI 1;have f2:=dI 2;have f3:=dI 3;obtain⟨xM,Ec⟩:∃xM,xM=aH fU g13 0 (.int .i64 zc.lv) (.bool zc.b) (.slice zc.a zc.n zc.p) (.slice zc.ka zc.kn zc.kp):=⟨_,rfl⟩;rw[<-Ec]at ym qcu qa9;unfold aH at Ec;have Og:=Lib.hid Ec;have Be:=Lib.hid ym;have qfV:=Lib.hid qcu;clear xU Ab wE ym qcu hh Ec dI hu Vg e2 e5 C4 C6 mq lH Ik Hz Yh qf6;(refine aK 7 ?_;intro K hK);go_simp;rw[<-Og.out];clear Og q0 q1 q2 q3 f0 f1 f2 f3 ag;refine hK.out _ _ (λ_=>qa9) ?_;clear hK K;(try simp only[Act.put,aD,aF,aG]);have qcm:=Be.out.qxY nI.out qfV.out;obtain⟨q0,q1,q2,q3⟩:=Be.out.B.b.p4;have dI:=Be.out.B.b.frozen;have f0:=dI 0;have f1:=dI 1;have f2:=dI 2;have f3:=dI 3;obtain⟨FK,Ed⟩:∃FK,FK=aH xM g14 0 (.int .i64 v5.lv) (.bool v5.b) (.slice v5.a v5.n v5.p) (.slice v5.ka v5.kn v5.kp):=⟨_,rfl⟩;rw[<-Ed]at qcm;unfold aH at Ed;have Oh:=Lib.hid Ed;have Bf:=Lib.hid qcm;clear qcm Ed dI Be qfV;(refine aK 8 ?_;intro K hK);go_simp;rw[<-Oh.out];refine hK.out _ _ (λh=>absurd rfl h) ?_
        clear hK K Oh q0 q1 q2 q3 f0 f1 f2 f3 qa9;refine ek ?_;clear hHeld;have C2:=Lib.hid (N9.out MX FK zc Bf.out.m Bf.out.A.x);obtain⟨q0,q1,q2,q3⟩:=Bf.out.A.b.p4;go_wp2_with (fail);refine C2.out.mono ?_;rintro e9 w14 ⟨v6,rfl,Ag,e6⟩;clear q0 q1 q2 q3;have GH:=Bf.out.ext e6;have qcn:=GH.qxZ nI.out Ag;obtain⟨q0,q1,q2,q3⟩:=GH.S.b.p4;have dI:=GH.S.b.frozen;have f0:=dI 0;have f1:=dI 1;have f2:=dI 2;have f3:=dI 3;obtain⟨K4,LM⟩:∃K4,K4=aH w14 g12 0 (.int .i64 v6.lv) (.bool v6.b) (.slice v6.a v6.n v6.p) (.slice v6.ka v6.kn v6.kp):=⟨_,rfl⟩;rw[<-LM]at qcn;unfold aH at LM;have qfX:=Lib.hid LM;have Yr:Hid (Nj M w J n gt g12 g13 g14 F K4 k):=⟨MX,c,b',s',L',zc,v5,v6,qcn,Yv.out⟩;clear GH qcn LM dI Ag e6 C2 Bf Yv N9 nI uR oq RQ qfd nJ qff;go_wp2;rw[<-qfX.out];clear qfX q0 q1 q2 q3 f0 f1 f2 f3
        go_roundw
        case rel=>exact⟨k,Yr.out⟩
        case measure=>
         have h:=(qmh Yr.out).2 k Yr.out;have:=yM.out;omega
theorem FQ(x:Nat->Int){l:List Tm}(h:NN l):ev x (di l)= -ev x l:=by
 show ev x (ai l [(-1,Mo.zero)])=_;rw[bQ x h (qW (-1)),qm,Int.mul_neg,Int.mul_one]
theorem ZV{J:Nat}(h1:1<=J)(h4:J<=4)(e:Int)(l:List Tm):ae (ck J e (di l)) (di (ck J e l)):=λm=>by
 rw[mE h1 h4,qA,qA,mE h1 h4]
 split
 ·rfl
 ·rfl
theorem ZR{J:Nat}(h1:1<=J)(h4:J<=4){P:Nat->List Tm}(hP:∀i,gK J (P i))(e:Nat):∀N:Nat,ae (ck J (e:Int) (aJ J N P)) (if e<N then P e else[])
 |0=>λ_=>rfl
 |N+1=>λm=>by
  have ih:=ZR h1 h4 hP e N m;rw[mE h1 h4]at ih;rw[mE h1 h4,fK,gW,rG]
  have key:m.get J=0->aB (P N) (Mo.sub (Mo.add m (xp J (e:Int))) (xp J (N:Int)))=if e=N then aB (P e) m else 0:=λh0=>by
   by_cases he:e=N
   ·subst he;rw[if_pos rfl]
    congr 1
    exact((Mo.add_eq _ _ _).1 rfl).symm
   ·rw[if_neg he];refine Classical.byContradiction λhc=>?_;have:=hP N _ hc;rw[sJ,gL,h0,dX J J _ h1 h4,dX J J _ h1 h4,if_pos rfl,if_pos rfl]at this;omega
  by_cases h0:m.get J=0
  ·rw[if_pos h0]at ih⊢;rw[ih,key h0]
   by_cases he:e=N
   ·subst he;rw[if_neg (Nat.lt_irrefl _),if_pos rfl,if_pos (Nat.lt_succ_self _)];show 0+_=_;omega
   ·rw[if_neg he]
    by_cases hl:e<N
    ·rw[if_pos hl,if_pos (by omega)];omega
    ·rw[if_neg hl,if_neg (by omega)];rfl
  ·rw[if_neg h0]at ih⊢
   by_cases hl:e<N+1
   ·rw[if_pos hl];refine(Classical.byContradiction λhc=>?_);exact h0 (hP e m λh=>hc h.symm)
   ·rw[if_neg hl];rfl
theorem qal{J:Nat}(h1:1<=J)(h4:J<=4){l:List Tm}(nl:NN l){n:Nat}(h0:∀i:Nat,n<i->ae (ck J (i:Int) l) [])(hn:n=0\/¬ae (ck J (n:Int) l) []):bD J l n:=by
 refine⟨λm hm=>?_,hn.imp id λh=>TS h1 h4 h⟩
 have jm:m.nn=true:=by
  cases hq:m.nn with
  |true=>rfl
  |false=>exact absurd (nl m hq) hm
 have h5:=vL jm J;refine Classical.byContradiction λhc=>?_;have h6:=h0 (m.get J).toNat (by omega);rw[show(((m.get J).toNat:Nat):Int)=m.get J by omega]at h6;exact DT h1 h4 hm h6
theorem qw0{J:Nat}(h1:1<=J)(h4:J<=4){l:List Tm}(nl:NN l)(h0:∀i:Nat,ae (ck J (i:Int) l) []):ae l []:=λm=>by
 refine Classical.byContradiction λhm=>?_
 have jm:m.nn=true:=by
  cases hq:m.nn with
  |true=>rfl
  |false=>exact absurd (nl m hq) hm
 have h5:=vL jm J;have h6:=h0 (m.get J).toNat;rw[show(((m.get J).toNat:Nat):Int)=m.get J by omega]at h6;exact DT h1 h4 hm h6
theorem bD.ZX{J n:Nat}(h1:1<=J)(h4:J<=4){l:List Tm}(h:bD J l n){i:Nat}(hi:n<i):ae (ck J (i:Int) l) []:=qg3 h1 h4 h.1 hi
theorem bD.ckn{J n:Nat}(h1:1<=J)(h4:J<=4){l:List Tm}(h:bD J l n)(hn:1<=n):¬ae (ck J (n:Int) l) []:=by
 obtain⟨m,hm,e⟩:=h.2.resolve_left (by omega);rw[<-e];exact DT h1 h4 hm
structure Sz(B A:Nat)(l:List Tm):Prop where
 n:NN l
 d:bn B l
 a:az (aC l)<=A
theorem Sz.ck{B A J:Nat}{l:List Tm}(h:Sz B A l)(h1:1<=J)(h4:J<=4)(e:Int):iA J B A (ck J e l):=Z7 h1 h4 h.n h.d h.a e
theorem iA.sz{J B A:Nat}{l:List Tm}(h:iA J B A l):Sz B A l:=⟨h.1,h.2.2.1,h.2.2.2⟩
theorem IG.bZ{J:Nat}{a b c a' b' c':List Tm}(h:IG J a b c)(ha:ae a a')(hb:ae b b')(hc:ae c c'):IG J a' b' c':=λM W x y hM hx hy=>(h M W x y hM (hx.bZ ha.symm) (hy.bZ hb.symm)).mono λ_ _ k=>k.bZ hc
theorem qaj{J:Nat}{a:List Tm}{z:Int}(h1:1<=J)(h4:J<=4)(nn:NN a)(hz:DgV J a z):Nl J a z:=λM W x hM hx=>qmo M x a J z W h1 h4 nn hz hM hx.pi
def mP(J:Nat)(f g:List Tm):List Tm:=ai (eZ J f 2) (eZ J g 1)++di (ai (eZ J f 1) (eZ J g 2))
def mQ(J:Nat)(f g:List Tm):List Tm:=ai (eZ J f 2) (eZ J g 0)++di (ai (eZ J f 0) (eZ J g 2))
def mW(J:Nat)(f g:List Tm):List Tm:=ai (eZ J f 1) (eZ J g 0)++di (ai (eZ J f 0) (eZ J g 1))
def mR(J:Nat)(f g:List Tm):List Tm:=ai (mQ J f g) (mQ J f g)++di (ai (mP J f g) (mW J f g))
def mS(J:Nat)(f g:List Tm):List Tm:=aJ J 2 λi=>if i=0 then mQ J f g else mP J f g
section
variable{J:Nat}{f g:List Tm}(h1:1<=J)(h4:J<=4)(nf:NN f)(ng:NN g)
include h1 h4 nf ng
end
section
variable{J:Nat}{f g:List Tm}(h1:1<=J)(h4:J<=4)(hf:Sz 3 10 f)(hg:Sz 3 10 g)
include h1 h4 hf hg
end
def f22(J:Nat)(f g:List Tm):Nat->List Tm:=λj=>if j=0 then mR J f g else mS J f g
theorem qzq:Sz 0 1 [((1:Int),Mo.zero)]:=⟨qW 1,λm hm k=>by
 have h:m=Mo.zero:=Classical.byContradiction λhc=>hm (by simp only[aB];rw[if_neg λe=>hc e.symm];rfl)
 rw[h,ve];omega,by decide⟩
theorem Wl{B A k:Nat}{l:List Tm}(h:Sz B A l):Sz (k*B) (k*A+1) (bA l k):=by
 induction k with
 |zero=>rw[Nat.zero_mul,Nat.zero_mul];exact qzq
 |succ k ih=>
  rw[JO];refine⟨bE ih.n h.n,?_,?_⟩
  ·rw[Nat.succ_mul];exact bn.ai ih.d h.d ih.n
  ·rw[Cu,Nat.succ_mul];have:=qJ (aC (bA l k)) (aC l);have:=ih.a;have:=h.a;omega
theorem qh1(x:Nat->Int)(l:List Tm):ev x (bA l 0)=1:=qm x 1
theorem Sz.mono{B A C D:Nat}{l:List Tm}(h:Sz B A l)(hB:B<=C)(hA:A<=D):Sz C D l:=⟨h.n,h.d.mono hB,Nat.le_trans h.a hA⟩
theorem bD.nz{J n:Nat}{l:List Tm}(h1:1<=J)(h4:J<=4)(h:bD J l n)(hn:1<=n):¬ae l []:=λhs=>h.ckn h1 h4 hn (gV hs)
section
variable{J:Nat}{f g:List Tm}(h1:1<=J)(h4:J<=4)(hf:Sz 3 10 f)(hg:Sz 3 10 g)
include h1 h4 hf hg
end
end Go.Proofs.YtmcfpnmoklnhoaaGreat
