/- recpoly: Const, Normal, Of, To, IsZero, scale, Same, Add, Mul, .. recpoly: scale, Same, Mul, Add, Sub, Scale, Neg. recpoly: scale, Mul, Add, Sub, Scale, Neg, Var. cylinderref22: Few, Terms. cylinderref22: Canonical, Equal. -/
import Derived.Test.YtlmipmebdelgbaaGreatMg
set_option linter.unusedVariables false
set_option linter.unusedSimpArgs false

namespace Go.Proofs.YtlmipmebdelgbaaGreat
open Go.RowKit

def PI (M:Nat->Prop) (w:World) (x:PE) (l:List Tm):Prop:=∃ d,∃ t:RT d,RR M w d t (.int .i64 x.lv) (.bool x.b) (.slice x.a x.n x.p) (.slice x.ka x.kn x.kp)/\(qaN d t=true∨TB d t)/\Sim (qal d t) l
section
variable {M M':Nat->Prop} {w w':World} {x:PE} {l r:List Tm}
theorem PI.ext (h:PI M w x l) (he:Ext w w'):PI M w' x l:=by
 obtain ⟨d,t,h1,h2⟩:=h;exact ⟨d,t,RR.ext h1 he,h2⟩
theorem PI.more (h:PI M w x l) (hm : ∀ g,M' g->M g∨w.heap.size<=g):PI M' w x l:=by
 obtain ⟨d,t,h1,h2⟩:=h;exact ⟨d,t,RR.more hm h1,h2⟩
theorem CRx.pi {L:Nat} (h:CRx M w L x l):PI M w x l:=by
 obtain ⟨t,h1,h2,h3,h4⟩:=h;exact ⟨_,t,h1,.inl h2,h4⟩
theorem PI.sim (h:PI M w x l) (hs:Sim l r):PI M w x r:=by
 obtain ⟨d,t,h1,h2,h3⟩:=h;exact ⟨d,t,h1,h2,h3.trans hs⟩
end
theorem RR.pe {M:Nat->Prop} {w:World} {d:Nat} {t:RT d} {c0 c1 c2 c3:Value} (h:RR M w d t c0 c1 c2 c3) : ∃ x:PE,c0 = .int .i64 x.lv/\c1 = .bool x.b/\c2 = .slice x.a x.n x.p/\c3 = .slice x.ka x.kn x.kp:=by
 cases d with
 | zero=>exact h.elim
 | succ d=>
  obtain ⟨rfl,rfl,⟨a,p,rfl⟩,ka,kp,rfl⟩:=h.form
  exact ⟨⟨t.1,t.2.1.neg,a,t.2.1.n,p,ka,t.2.2.1,kp⟩,rfl,rfl,rfl,rfl⟩
def qa3 (M:Nat->Prop) (w:World) (L:Nat) (l:List Tm) (e:Ending) (w':World):Prop:=∃ y:PE,e = .returned (.agg (peA y))/\CRx M w' L y l/\Ext w w'
theorem qaZ.x {M:Nat->Prop} {w w':World} {L:Nat} {l:List Tm} {e:Ending} (h:qaZ M w L l e w'):qa3 M w L l e w':=by
 obtain ⟨c0,c1,c2,c3,rfl,h2,h3⟩:=h
 obtain ⟨y,rfl,rfl,rfl,rfl,hy,_⟩:=h2.pe
 exact ⟨y,rfl,hy,h3⟩
abbrev zA:Array Value:=#[.int .i64 0,.bool false,.slice none 0 0,.slice none 0 0]
theorem qbT {M M' : Nat -> Prop} {w W : World} {g : Nat} {L : Nat} {l : List Tm} {y : PE} (hB : Blk W g 33 4 (arr zA)) (hg : M' g) (hw : w.heap.size <= g) (he : Ext w W) (hc : CRx M' W L y l) (hm : ∀ g, M g -> M' g) :
  (W.cell? ⟨g,0,none⟩=some (.int .i64 0)/\W.cell? ⟨g,1,none⟩=some (.bool false)/\W.cell? ⟨g,2,none⟩=some (.slice none 0 0)/\W.cell? ⟨g,3,none⟩=some (.slice none 0 0)) /\
  (W.frozen? ⟨g,0,none⟩=false/\W.frozen? ⟨g,1,none⟩=false/\W.frozen? ⟨g,2,none⟩=false/\W.frozen? ⟨g,3,none⟩=false) /\
  (((((W.setCell ⟨g,0,none⟩ (.int .i64 y.lv)).setCell ⟨g,1,none⟩ (.bool y.b)).setCell ⟨g,2,none⟩ (.slice y.a y.n y.p)).setCell ⟨g,3,none⟩ (.slice y.ka y.kn y.kp)).cell? ⟨g,0,none⟩=some (.int .i64 y.lv)/\((((W.setCell ⟨g,0,none⟩ (.int .i64 y.lv)).setCell ⟨g,1,none⟩ (.bool y.b)).setCell ⟨g,2,none⟩ (.slice y.a y.n y.p)).setCell ⟨g,3,none⟩ (.slice y.ka y.kn y.kp)).cell? ⟨g,1,none⟩=some (.bool y.b) /\
   ((((W.setCell ⟨g,0,none⟩ (.int .i64 y.lv)).setCell ⟨g,1,none⟩ (.bool y.b)).setCell ⟨g,2,none⟩ (.slice y.a y.n y.p)).setCell ⟨g,3,none⟩ (.slice y.ka y.kn y.kp)).cell? ⟨g,2,none⟩=some (.slice y.a y.n y.p)/\((((W.setCell ⟨g,0,none⟩ (.int .i64 y.lv)).setCell ⟨g,1,none⟩ (.bool y.b)).setCell ⟨g,2,none⟩ (.slice y.a y.n y.p)).setCell ⟨g,3,none⟩ (.slice y.ka y.kn y.kp)).cell? ⟨g,3,none⟩=some (.slice y.ka y.kn y.kp)) /\
  Hid (qa3 M w L l (.returned (.agg (peA y))) ((((W.setCell ⟨g,0,none⟩ (.int .i64 y.lv)).setCell ⟨g,1,none⟩ (.bool y.b)).setCell ⟨g,2,none⟩ (.slice y.a y.n y.p)).setCell ⟨g,3,none⟩ (.slice y.ka y.kn y.kp))):=by
 obtain ⟨h1,h2,h3,h4⟩:=qhW (M:=M) (w:=w) hB hg hw he hc hm
 exact ⟨h1,h2,h3,h4.out.x⟩
def P4 (w:World) (b:Nat) (x:PE):Prop:=w.cell? ⟨b,0,none⟩=some (.int .i64 x.lv)/\w.cell? ⟨b,1,none⟩=some (.bool x.b)/\w.cell? ⟨b,2,none⟩=some (.slice x.a x.n x.p)/\w.cell? ⟨b,3,none⟩=some (.slice x.ka x.kn x.kp)
theorem P4.ext {w w':World} {b:Nat} {x:PE} (h:P4 w b x) (he:Ext w w'):P4 w' b x:=by
 have hb:=World.block_lt_of_cell? _ _ h.1
 unfold P4;rw [he.cell hb,he.cell hb,he.cell hb,he.cell hb];exact h
theorem Blk.p4 {w:World} {b:Nat} {t:TypeId} {x:PE} (h:Blk w b t 4 (arr (peA x))):P4 w b x:=⟨h.cell (i:=0) (by omega),h.cell (i:=1) (by omega),h.cell (i:=2) (by omega),h.cell (i:=3) (by omega)⟩
theorem qoJ {M : Nat -> Prop} {w : World} (hM : Mb M w) (x : PE) : Ext w ((w.alloc (.cells (peA x) 33)).alloc (.cells zA 33)) /\ P4 ((w.alloc (.cells (peA x) 33)).alloc (.cells zA 33)) w.heap.size x /\
  Blk ((w.alloc (.cells (peA x) 33)).alloc (.cells zA 33)) (w.heap.size+1) 33 4 (arr zA)/\Mb (Mx M w.heap.size (w.heap.size+2)) ((w.alloc (.cells (peA x) 33)).alloc (.cells zA 33)):=by
 have h1:=Blk.of_arr (w.alloc (.cells (peA x) 33)) zA 33 4 rfl
 simp only [World.size_alloc] at h1
 exact ⟨((Ext.refl w).alloc _).alloc _,((Blk.of_arr w (peA x) 33 4 rfl).alloc _).p4,h1,Mx.mb hM (by simp;omega) (by simp)⟩
theorem qkB {M : Nat -> Prop} {w : World} (hM : Mb M w) (x y : PE) : Ext w (((w.alloc (.cells (peA x) 33)).alloc (.cells (peA y) 33)).alloc (.cells zA 33)) /\ P4 (((w.alloc (.cells (peA x) 33)).alloc (.cells (peA y) 33)).alloc (.cells zA 33)) w.heap.size x /\
  P4 (((w.alloc (.cells (peA x) 33)).alloc (.cells (peA y) 33)).alloc (.cells zA 33)) (w.heap.size+1) y /\
  Blk (((w.alloc (.cells (peA x) 33)).alloc (.cells (peA y) 33)).alloc (.cells zA 33)) (w.heap.size+2) 33 4 (arr zA)/\Mb (Mx M w.heap.size (w.heap.size+3)) (((w.alloc (.cells (peA x) 33)).alloc (.cells (peA y) 33)).alloc (.cells zA 33)):=by
 have h1:=Blk.of_arr ((w.alloc (.cells (peA x) 33)).alloc (.cells (peA y) 33)) zA 33 4 rfl
 have h2:=(Blk.of_arr (w.alloc (.cells (peA x) 33)) (peA y) 33 4 rfl).alloc (.cells zA 33)
 simp only [World.size_alloc] at h1 h2
 exact ⟨(((Ext.refl w).alloc _).alloc _).alloc _,(((Blk.of_arr w (peA x) 33 4 rfl).alloc _).alloc _).p4,h2.p4,h1,Mx.mb hM (by simp;omega) (by simp)⟩
theorem qcr (M:Nat->Prop) (x:PE) (l:List Tm) (w:World) (hM:Mb M w) (h:PI M w x l):Calls Tryz.prog 48 #[.agg (peA x)] w (qa3 M w 4 l):=by
 obtain ⟨d,t,h1,h2,h3⟩:=h
 exact (qg0 M d t _ _ _ _ w hM h1 h2).mono fun e w' hp=>(hp.sim h3).x
theorem qdD (M:Nat->Prop) (L:Nat) (x:PE) (l:List Tm) (w:World) (hM:Mb M w) (h:CRx M w L x l):Calls Tryz.prog 41 #[.agg (peA x)] w (qa3 M w L l):=
 (qpf L M l _ _ _ _ w hM h).mono fun e w' hp=>hp.x
theorem qbS (M:Nat->Prop) (x:PE) (l:List Tm) (w:World) (hM:Mb M w) (h:PI M w x l):Calls Tryz.prog 49 #[.agg (peA x)] w (qa3 M w 4 l):=by
 obtain ⟨hE,⟨x0,x1,x2,x3⟩,hB,hM2⟩:=qoJ hM x
 have h2:=(h.more (M':=Mx M w.heap.size (w.heap.size+2)) (Mx.more (Nat.le_refl _))).ext hE
 go_enter Tryz.func49,Tryz.ntmps49
 go_wp2_with (fail)
 refine (qcr _ x l _ hM2 h2).mono ?_
 rintro e w1 ⟨y,rfl,hy,he1⟩
 go_wp2_with (fail)
 refine (qdD _ 4 y l _ (hM2.ext he1) hy).mono ?_
 rintro e w2 ⟨z,rfl,hz,he2⟩
 obtain ⟨⟨q0,q1,q2,q3⟩,⟨f0,f1,f2,f3⟩,⟨r0,r1,r2,r3⟩,HF⟩:=qbT (M:=M) (w:=w) ((hB.ext he1).ext he2) (Mx.at (by omega)) (by omega) ((hE.trans he1).trans he2) hz Mx.sub
 clear hE hB hM2 h2 he1 he2 hy hz h x0 x1 x2 x3
 go_wp2
 exact bodyPost_ret (v:=.agg (peA z)) (by simp [results,Tryz.results49,go_sem,r0,r1,r2,r3]) rfl HF.out
theorem qaQ (M:Nat->Prop) (x:PE) (l:List Tm) (w:World) (hM:Mb M w) (h:PI M w x l):Calls Tryz.prog 13 #[.agg (peA x)] w fun e w'=>∃ b:Bool,e = .returned (.bool b)/\(b=true↔Sim l [])/\Ext w w':=by
 have hE:Ext w (w.alloc (.cells (peA x) 33)):=(Ext.refl w).alloc _
 have hM2:Mb M (w.alloc (.cells (peA x) 33)):=hM.ext hE
 go_enter Tryz.func13,Tryz.ntmps13
 go_wp2_with (fail)
 refine (qcr _ x l _ hM2 (h.ext hE)).mono ?_
 rintro e w1 ⟨y,rfl,hy,he1⟩
 have hz:=CR.isz hy
 have HZ:=Lib.hid hz
 clear hz
 go_wp2_with (fail)
 refine (qbR y.lv y.b y.a y.n y.p y.ka y.kn y.kp w1).mono ?_
 rintro e w2 ⟨rfl,he2⟩
 go_wp2
 go_ret
 exact ⟨_,rfl,HZ.out,(hE.trans he1).trans he2⟩
theorem qcB (M:Nat->Prop) (b:Bool) (a:Option Addr) (n p:Nat) (z:Int) (w:World) (hM:Mb M w) (h:qbt M w (.bool b) (.slice a n p) z):Calls Tryz.prog 22 #[.agg #[.bool b,.slice a n p]] w (qa3 M w 0 [(z,Mo.zero)]):=by
 have hE:Ext w ((w.alloc (.cells #[.bool b,.slice a n p] 30)).alloc (.cells zA 33)):=((Ext.refl w).alloc _).alloc _
 have hB:=Blk.of_arr (w.alloc (.cells #[.bool b,.slice a n p] 30)) zA 33 4 rfl
 simp only [World.size_alloc] at hB
 have hM2:Mb (Mx M w.heap.size (w.heap.size+2)) ((w.alloc (.cells #[.bool b,.slice a n p] 30)).alloc (.cells zA 33)):=Mx.mb hM (by simp;omega) (by simp)
 have h2:=(h.more (M':=Mx M w.heap.size (w.heap.size+2)) (Mx.more (Nat.le_refl _))).ext hE
 go_enter Tryz.func22,Tryz.ntmps22
 go_wp2_with (fail)
 refine (qda _ _ z _ hM2 h2).mono ?_
 rintro e w1 ⟨d0,d1,rfl,hc,he1⟩
 obtain ⟨b2,a2,n2,p2,rfl,rfl⟩:=hc.form
 obtain ⟨⟨q0,q1,q2,q3⟩,⟨f0,f1,f2,f3⟩,⟨r0,r1,r2,r3⟩,HF⟩:=qbT (M:=M) (w:=w) (y:=⟨0,b2,a2,n2,p2,none,0,0⟩) (hB.ext he1) (Mx.at (by omega)) (by omega) (hE.trans he1) (CR.const hc 0) Mx.sub
 clear hE hB hM2 h2 he1 hc h
 go_wp2
 exact bodyPost_ret (v:=.agg #[.int .i64 0,.bool b2,.slice a2 n2 p2,.slice none 0 0]) (by simp [results,Tryz.results22,go_sem,r0,r1,r2,r3]) rfl HF.out
theorem qq3 (M:Nat->Prop) (v:Value) (l:List Tm) (w:World) (hM:Mb M w) (h:qbW M w v l) (hL:dlen (nrm l)<=1099511627776) (he : ∀ s ∈ l,∀ k,s.2.get k<=1073741824):Calls Tryz.prog 10 #[v] w (qa3 M w 4 (norm l)):=by
 have hE:Ext w (w.alloc (.cells zA 33)):=(Ext.refl w).alloc _
 have hB:=Blk.of_arr w zA 33 4 rfl
 have hM2:Mb (Mx M w.heap.size (w.heap.size+1)) (w.alloc (.cells zA 33)):=Mx.mb hM (by simp) (by simp)
 have h2:=(h.more (M':=Mx M w.heap.size (w.heap.size+1)) (Mx.more (Nat.le_refl _))).ext hE
 have HE:=Lib.hid he
 clear he
 go_enter Tryz.func10,Tryz.ntmps10
 go_wp2_with (fail)
 refine (qgY _ v l _ hM2 h2 hL).mono ?_
 rintro e w1 ⟨u,rfl,hu,he1⟩
 have HU:=Lib.hid hu
 clear hu
 go_wp2_with (fail)
 refine (qfU (hM2.ext he1) HU.out HE.out).mono ?_
 intro e w2 hp
 obtain ⟨y,rfl,hy,he2⟩:=hp.x
 clear hp
 go_wp2_with (fail)
 refine (qdD _ 4 y (norm l) _ ((hM2.ext he1).ext he2) hy).mono ?_
 rintro e w3 ⟨z,rfl,hz,he3⟩
 obtain ⟨⟨q0,q1,q2,q3⟩,⟨f0,f1,f2,f3⟩,⟨r0,r1,r2,r3⟩,HF⟩:=qbT (M:=M) (w:=w) (((hB.ext he1).ext he2).ext he3) (Mx.at (by omega)) (by omega) (((hE.trans he1).trans he2).trans he3) hz Mx.sub
 clear hE hB hM2 h2 he1 he2 he3 hy hz h
 go_wp2
 exact bodyPost_ret (v:=.agg (peA z)) (by simp [results,Tryz.results10,go_sem,r0,r1,r2,r3]) rfl HF.out


def SP2 (b:Nat) (x y:PE) (w:World):Prop:=P4 w b x/\P4 w (b+1) y
theorem SP2.ext {b:Nat} {x y:PE} {w w':World} (h:SP2 b x y w) (he:Ext w w'):SP2 b x y w':=⟨h.1.ext he,h.2.ext he⟩
def SPI (b:Nat) (x:PE) (c0 c1:Value) (w:World):Prop:=P4 w b x/\w.cell? ⟨b+1,0,none⟩=some c0/\w.cell? ⟨b+1,1,none⟩=some c1
theorem SPI.ext {b:Nat} {x:PE} {c0 c1:Value} {w w':World} (h:SPI b x c0 c1 w) (he:Ext w w'):SPI b x c0 c1 w':=by
 have hb:=World.block_lt_of_cell? _ _ h.2.1
 exact ⟨h.1.ext he,by rw [he.cell hb];exact h.2.1,by rw [he.cell hb];exact h.2.2⟩
theorem qf6 (M:Nat->Prop) (L:Nat) (x y:PE) (l r:List Tm) (B C:Nat) (w:World) (hM:Mb M w) (h:CRx M w L x l) (k:CRx M w L y r) (hL:dlen (nrm l)+dlen (nrm r)<=1099511627776) (hB:Deg B l) (hC:Deg C r) (hBC:(B+1)*(C+1)<=1099511627776):Calls Tryz.prog 54 #[.agg (peA x),.agg (peA y)] w (qa3 M w L (pmul l r)):=
 (qq2 L M l r B C _ _ _ _ _ _ _ _ w hM h k hL hB hC hBC).mono fun e w' hp=>hp.x
theorem qna (M:Nat->Prop) (L:Nat) (x y:PE) (l r:List Tm) (w:World) (h:CRx M w L x l) (k:CRx M w L y r):Calls Tryz.prog 53 #[.agg (peA x),.agg (peA y)] w fun e w'=>e = .returned (.bool (qhJ l r))/\Ext w w':=qpe L M l r _ _ _ _ _ _ _ _ w h k
theorem CRx.up {M:Nat->Prop} {w:World} {L D:Nat} {x:PE} {l:List Tm} (h:CRx M w L x l) (hl:L<=D):CRx M w D x l:=CR.up h hl
theorem CRx.sim {M:Nat->Prop} {w:World} {L:Nat} {x:PE} {l r:List Tm} (h:CRx M w L x l) (hs:Sim l r):CRx M w L x r:=CR.sim h hs
theorem CRx.nn {M:Nat->Prop} {w:World} {L:Nat} {x:PE} {l:List Tm} (h:CRx M w L x l) : ∀ m:Mo,m.nn=false->qab l m=0:=CR.nn h
theorem qhB (c:Int):Deg 0 [(c,Mo.zero)]:=by
 intro m hm k
 have:m=Mo.zero:=by
  refine Classical.byContradiction fun h=>hm ?_
  simp only [qab];rw [if_neg (fun e=>h e.symm)];rfl
 rw [this,qbr];exact Int.le_refl _
set_option maxHeartbeats 2000000 in
theorem qpg (M:Nat->Prop) (x y:PE) (l r:List Tm) (w:World) (hM:Mb M w) (h:PI M w x l) (k:PI M w y r):Calls Tryz.prog 18 #[.agg (peA x),.agg (peA y)] w fun e w'=>∃ b:Bool,e = .returned (.bool b)/\(b=true↔Sim l r)/\Ext w w':=by
 have hE:Ext w ((w.alloc (.cells (peA x) 33)).alloc (.cells (peA y) 33)):=((Ext.refl w).alloc _).alloc _
 have b1:=Blk.of_arr (w.alloc (.cells (peA x) 33)) (peA y) 33 4 rfl
 simp only [World.size_alloc] at b1
 have hS:SP2 w.heap.size x y ((w.alloc (.cells (peA x) 33)).alloc (.cells (peA y) 33)).drew:=SP2.ext ⟨((Blk.of_arr w (peA x) 33 4 rfl).alloc _).p4,b1.p4⟩ (Ext.refl _).drew
 have hE2:=hE.trans (Ext.refl _).drew
 have HX:=Lib.hid (h.ext hE2)
 have HY:=Lib.hid (k.ext hE2)
 have HM:=Lib.hid (hM.ext hE2)
 have HE:=Lib.hid hE2
 have HS:=Lib.hid hS
 clear hE b1 hS hE2 h k
 go_enter Tryz.func18,Tryz.ntmps18
 go_wp2
 refine qae (SP2 w.heap.size x y) 5 (by kernel_rfl) HS.out (fun hHeld=>?_)
 (refine tkB [0,2] ?_;(iterate 2 (refine tk1 (oi:=?_) (v:=?_) (by kernel_rfl) (by first | exact hSn | exact hHeld) ?_ ?_ ?_ ?_ ?_;rotate_left 2;(simp only [xgA,xgB,xgC];rfl);rfl;(intro wS hSw;obtain ⟨⟨S1,S2,S3,S4⟩,S5,S6,S7,S8⟩:=hSw;go_simp;try with_reducible rfl);(exact fun _ _ _ h=>h);(try simp only [Act.put,xgD,xgE,xgF])));refine tkE ?_)
 ((refine qaa 1 (o:=?_) (by kernel_rfl) ?_ ?_;rotate_left 1;(simp only [xgA,xgB,xgC];rfl);intro K hK);go_simp;(refine (qcr _ x l _ HM.out HX.out).mono ?_);rintro e_ wz ⟨x1,rfl,hx1,he1⟩;go_wp2_with (fail);(try clear hSn);(have hSn:=hHeld.ext he1);(refine hK.out _ _ (fun _=>hSn) ?_);clear hK K;(try simp only [Act.put,xgD,xgE,xgF]))
 ((refine qaa 3 (o:=?_) (by kernel_rfl) ?_ ?_;rotate_left 1;(simp only [xgA,xgB,xgC];rfl);intro K hK);go_simp;(refine (qcr _ y r _ (HM.out.ext he1) (HY.out.ext he1)).mono ?_);rintro e_ wz ⟨y1,rfl,hy1,he2⟩;go_wp2_with (fail);(try clear hSn);(have hSn:=hHeld.ext (he1.trans he2));(refine hK.out _ _ (fun _=>hSn) ?_);clear hK K;(try simp only [Act.put,xgD,xgE,xgF]))
 ((refine qaa 4 (o:=?_) (by kernel_rfl) ?_ ?_;rotate_left 1;(simp only [xgA,xgB,xgC];rfl);intro K hK);go_simp;(refine (qna _ 4 x1 y1 l r _ (hx1.ext he2) hy1).mono ?_);rintro e_ wz ⟨rfl,he3⟩;go_wp2_with (fail);(try clear hSn);(have hSn:=hHeld.ext ((he1.trans he2).trans he3));(refine hK.out _ _ (fun _=>hSn) ?_);clear hK K;(try simp only [Act.put,xgD,xgE,xgF]))
 ((refine qaa 5 (o:=?_) (by kernel_rfl) ?_ ?_;rotate_left 1;(simp only [xgA,xgB,xgC];rfl);intro K hK);go_simp;(refine hK.out _ _ (fun h=>absurd rfl h) ?_);clear hK K;refine qac (by kernel_rfl) ?_ _)
 have HF:Hid (qhJ l r=true↔Sim l r):=qf3 hx1.nn hy1.nn
 have HE3:=Lib.hid (HE.out.trans ((he1.trans he2).trans he3))
 clear he1 he2 he3 hx1 hy1 hHeld
 go_wp2
 go_ret
 exact ⟨_,rfl,HF.out,HE3.out⟩


theorem qlv (z:Int) (m:Mo):nrm [(z,m)]=z.natAbs:=by simp [nrm]
theorem qsH {M : Nat -> Prop} {w : World} (hM : Mb M w) (x : PE) (c0 c1 : Value) : Ext w (((w.alloc (.cells (peA x) 33)).alloc (.cells #[c0, c1] 30)).alloc (.cells zA 33)) /\ SPI w.heap.size x c0 c1 (((w.alloc (.cells (peA x) 33)).alloc (.cells #[c0, c1] 30)).alloc (.cells zA 33)) /\
  Blk (((w.alloc (.cells (peA x) 33)).alloc (.cells #[c0,c1] 30)).alloc (.cells zA 33)) (w.heap.size+2) 33 4 (arr zA)/\Mb (Mx M w.heap.size (w.heap.size+3)) (((w.alloc (.cells (peA x) 33)).alloc (.cells #[c0,c1] 30)).alloc (.cells zA 33)):=by
 have h1:=Blk.of_arr ((w.alloc (.cells (peA x) 33)).alloc (.cells #[c0,c1] 30)) zA 33 4 rfl
 have h2:=(Blk.of_arr (w.alloc (.cells (peA x) 33)) #[c0,c1] 30 2 rfl).alloc (.cells zA 33)
 simp only [World.size_alloc] at h1 h2
 exact ⟨(((Ext.refl w).alloc _).alloc _).alloc _,⟨(((Blk.of_arr w (peA x) 33 4 rfl).alloc _).alloc _).p4,h2.cell (i:=0) (by omega),h2.cell (i:=1) (by omega)⟩,h1,Mx.mb hM (by simp;omega) (by simp)⟩
set_option maxHeartbeats 2000000 in
theorem qiK (M : Nat -> Prop) (L : Nat) (x : PE) (l : List Tm) (B : Nat) (b : Bool) (a : Option Addr) (n p : Nat) (z : Int) (w : World) (hM : Mb M w) (h : CRx M w L x l) (k : qbt M w (.bool b) (.slice a n p) z) (hL : dlen (nrm l) + dlen z.natAbs <= 1099511627776) (hB : Deg B l) (hBC : B + 1 <= 1099511627776) :
  Calls Tryz.prog 58 #[.agg (peA x),.agg #[.bool b,.slice a n p]] w (qa3 M w L (pmul l [(z,Mo.zero)])):=by
 obtain ⟨hE0,hS0,hB0,hM0⟩:=qsH hM x (.bool b) (.slice a n p)
 have HE:=Lib.hid (hE0.trans (Ext.refl _).drew)
 have HS:=Lib.hid (hS0.ext (Ext.refl _).drew)
 have HB:=Lib.hid (hB0.ext (Ext.refl _).drew)
 have HM:=Lib.hid (hM0.ext (Ext.refl _).drew)
 have HX:=Lib.hid ((h.more (M':=Mx M w.heap.size (w.heap.size+3)) (Mx.more (Nat.le_refl _))).ext HE.out)
 have HI:=Lib.hid ((k.more (M':=Mx M w.heap.size (w.heap.size+3)) (Mx.more (Nat.le_refl _))).ext HE.out)
 have HD:=Lib.hid hB
 clear hE0 hS0 hB0 hM0 h k hB
 go_enter Tryz.func58,Tryz.ntmps58
 go_wp2
 refine qae (SPI w.heap.size x (.bool b) (.slice a n p)) 4 (by kernel_rfl) HS.out (fun hHeld=>?_)
 (refine tkB [0,1] ?_;(iterate 2 (refine tk1 (oi:=?_) (v:=?_) (by kernel_rfl) (by first | exact hSn | exact hHeld) ?_ ?_ ?_ ?_ ?_;rotate_left 2;(simp only [xgA,xgB,xgC];rfl);rfl;(intro wS hSw;obtain ⟨⟨S1,S2,S3,S4⟩,S5,S6⟩:=hSw;go_simp;try with_reducible rfl);(exact fun _ _ _ h=>h);(try simp only [Act.put,xgD,xgE,xgF])));refine tkE ?_)
 ((refine qaa 2 (o:=?_) (by kernel_rfl) ?_ ?_;rotate_left 1;(simp only [xgA,xgB,xgC];rfl);intro K hK);go_simp;(refine (qcB _ b a n p z _ HM.out HI.out).mono ?_);rintro e_ wz ⟨y,rfl,hy,he1⟩;go_wp2_with (fail);(try clear hSn);(have hSn:=hHeld.ext he1);(refine hK.out _ _ (fun _=>hSn) ?_);clear hK K;(try simp only [Act.put,xgD,xgE,xgF]))
 ((refine qaa 3 (o:=?_) (by kernel_rfl) ?_ ?_;rotate_left 1;(simp only [xgA,xgB,xgC];rfl);intro K hK);go_simp;(refine (qf6 _ L x y l [(z,Mo.zero)] B 0 _ (HM.out.ext he1) (HX.out.ext he1) (hy.up (Nat.zero_le _)) (by rw [qlv];exact hL) HD.out (qhB z) (by omega)).mono ?_);rintro e_ wz ⟨v,rfl,hv,he2⟩;go_wp2_with (fail);(try clear hSn);(have hSn:=hHeld.ext (he1.trans he2));(refine hK.out _ _ (fun _=>hSn) ?_);clear hK K;(try simp only [Act.put,xgD,xgE,xgF]))
 obtain ⟨⟨q0,q1,q2,q3⟩,⟨f0,f1,f2,f3⟩,⟨r0,r1,r2,r3⟩,HF⟩:=qbT (M:=M) (w:=w) (HB.out.ext (he1.trans he2)) (Mx.at (by omega)) (by omega) (HE.out.trans (he1.trans he2)) hv Mx.sub
 ((refine qaa 4 (o:=?_) (by kernel_rfl) ?_ ?_;rotate_left 1;(simp only [xgA,xgB,xgC];rfl);intro K hK);go_simp;(refine hK.out _ _ (fun h=>absurd rfl h) ?_);clear hK K;refine qac (by kernel_rfl) ?_ _)
 clear he1 he2 hy hv hHeld
 go_wp2
 exact bodyPost_ret (v:=.agg (peA v)) (by simp [results,Tryz.results58,go_sem,r0,r1,r2,r3]) rfl HF.out
set_option maxHeartbeats 2000000 in
theorem qfB (M : Nat -> Prop) (x y : PE) (l r : List Tm) (B C : Nat) (w : World) (hM : Mb M w) (h : PI M w x l) (k : PI M w y r) (hL : dlen (nrm l) + dlen (nrm r) <= 1099511627776) (hB : Deg B l) (hC : Deg C r) (hBC : (B + 1) * (C + 1) <= 1099511627776) :
  Calls Tryz.prog 19 #[.agg (peA x),.agg (peA y)] w (qa3 M w 4 (pmul l r)):=by
 obtain ⟨hE0,hP0,hP1,hB0,hM0⟩:=qkB hM x y
 have HE:=Lib.hid (hE0.trans (Ext.refl _).drew)
 have HS:Hid (SP2 w.heap.size x y _):=SP2.ext ⟨hP0,hP1⟩ (Ext.refl _).drew
 have HB:=Lib.hid (hB0.ext (Ext.refl _).drew)
 have HM:=Lib.hid (hM0.ext (Ext.refl _).drew)
 have HX:=Lib.hid ((h.more (M':=Mx M w.heap.size (w.heap.size+3)) (Mx.more (Nat.le_refl _))).ext HE.out)
 have HY:=Lib.hid ((k.more (M':=Mx M w.heap.size (w.heap.size+3)) (Mx.more (Nat.le_refl _))).ext HE.out)
 clear hE0 hP0 hP1 hB0 hM0 h k
 have HDB:=Lib.hid hB
 have HDC:=Lib.hid hC
 clear hB hC
 go_enter Tryz.func19,Tryz.ntmps19
 go_wp2
 refine qae (SP2 w.heap.size x y) 6 (by kernel_rfl) HS.out (fun hHeld=>?_)
 (refine tkB [0,2] ?_;(iterate 2 (refine tk1 (oi:=?_) (v:=?_) (by kernel_rfl) (by first | exact hSn | exact hHeld) ?_ ?_ ?_ ?_ ?_;rotate_left 2;(simp only [xgA,xgB,xgC];rfl);rfl;(intro wS hSw;obtain ⟨⟨S1,S2,S3,S4⟩,S5,S6,S7,S8⟩:=hSw;go_simp;try with_reducible rfl);(exact fun _ _ _ h=>h);(try simp only [Act.put,xgD,xgE,xgF])));refine tkE ?_)
 ((refine qaa 1 (o:=?_) (by kernel_rfl) ?_ ?_;rotate_left 1;(simp only [xgA,xgB,xgC];rfl);intro K hK);go_simp;(refine (qcr _ x l _ HM.out HX.out).mono ?_);rintro e_ wz ⟨x1,rfl,hx1,he1⟩;go_wp2_with (fail);(try clear hSn);(have hSn:=hHeld.ext he1);(refine hK.out _ _ (fun _=>hSn) ?_);clear hK K;(try simp only [Act.put,xgD,xgE,xgF]))
 ((refine qaa 3 (o:=?_) (by kernel_rfl) ?_ ?_;rotate_left 1;(simp only [xgA,xgB,xgC];rfl);intro K hK);go_simp;(refine (qcr _ y r _ (HM.out.ext he1) (HY.out.ext he1)).mono ?_);rintro e_ wz ⟨y1,rfl,hy1,he2⟩;go_wp2_with (fail);(try clear hSn);(have hSn:=hHeld.ext (he1.trans he2));(refine hK.out _ _ (fun _=>hSn) ?_);clear hK K;(try simp only [Act.put,xgD,xgE,xgF]))
 ((refine qaa 4 (o:=?_) (by kernel_rfl) ?_ ?_;rotate_left 1;(simp only [xgA,xgB,xgC];rfl);intro K hK);go_simp;(refine (qf6 _ 4 x1 y1 l r B C _ (HM.out.ext (he1.trans he2)) (hx1.ext he2) hy1 hL HDB.out HDC.out hBC).mono ?_);rintro e_ wz ⟨u,rfl,hu,he3⟩;go_wp2_with (fail);(try clear hSn);(have hSn:=hHeld.ext ((he1.trans he2).trans he3));(refine hK.out _ _ (fun _=>hSn) ?_);clear hK K;(try simp only [Act.put,xgD,xgE,xgF]))
 ((refine qaa 5 (o:=?_) (by kernel_rfl) ?_ ?_;rotate_left 1;(simp only [xgA,xgB,xgC];rfl);intro K hK);go_simp;(refine (qdD _ 4 u _ _ (HM.out.ext ((he1.trans he2).trans he3)) hu).mono ?_);rintro e_ wz ⟨v,rfl,hv,he4⟩;go_wp2_with (fail);(try clear hSn);(have hSn:=hHeld.ext (((he1.trans he2).trans he3).trans he4));(refine hK.out _ _ (fun _=>hSn) ?_);clear hK K;(try simp only [Act.put,xgD,xgE,xgF]))
 obtain ⟨⟨q0,q1,q2,q3⟩,⟨f0,f1,f2,f3⟩,⟨r0,r1,r2,r3⟩,HF⟩:=qbT (M:=M) (w:=w) (HB.out.ext (((he1.trans he2).trans he3).trans he4)) (Mx.at (by omega)) (by omega) (HE.out.trans (((he1.trans he2).trans he3).trans he4)) hv Mx.sub
 ((refine qaa 6 (o:=?_) (by kernel_rfl) ?_ ?_;rotate_left 1;(simp only [xgA,xgB,xgC];rfl);intro K hK);go_simp;(refine hK.out _ _ (fun h=>absurd rfl h) ?_);clear hK K;refine qac (by kernel_rfl) ?_ _)
 clear he1 he2 he3 he4 hx1 hy1 hu hv hHeld
 go_wp2
 exact bodyPost_ret (v:=.agg (peA v)) (by simp [results,Tryz.results19,go_sem,r0,r1,r2,r3]) rfl HF.out
set_option maxHeartbeats 2000000 in
theorem qf7 (M : Nat -> Prop) (x : PE) (l : List Tm) (B : Nat) (b : Bool) (a : Option Addr) (n p : Nat) (z : Int) (w : World) (hM : Mb M w) (h : PI M w x l) (k : qbt M w (.bool b) (.slice a n p) z) (hL : dlen (nrm l) + dlen z.natAbs <= 1099511627776) (hB : Deg B l) (hBC : B + 1 <= 1099511627776) :
  Calls Tryz.prog 26 #[.agg (peA x),.agg #[.bool b,.slice a n p]] w (qa3 M w 4 (pmul l [(z,Mo.zero)])):=by
 obtain ⟨hE0,hS0,hB0,hM0⟩:=qsH hM x (.bool b) (.slice a n p)
 have HE:=Lib.hid (hE0.trans (Ext.refl _).drew)
 have HS:=Lib.hid (hS0.ext (Ext.refl _).drew)
 have HB:=Lib.hid (hB0.ext (Ext.refl _).drew)
 have HM:=Lib.hid (hM0.ext (Ext.refl _).drew)
 have HX:=Lib.hid ((h.more (M':=Mx M w.heap.size (w.heap.size+3)) (Mx.more (Nat.le_refl _))).ext HE.out)
 have HI:=Lib.hid ((k.more (M':=Mx M w.heap.size (w.heap.size+3)) (Mx.more (Nat.le_refl _))).ext HE.out)
 have HD:=Lib.hid hB
 clear hE0 hS0 hB0 hM0 h k hB
 go_enter Tryz.func26,Tryz.ntmps26
 go_wp2
 refine qae (SPI w.heap.size x (.bool b) (.slice a n p)) 5 (by kernel_rfl) HS.out (fun hHeld=>?_)
 (refine tkB [0,2] ?_;(iterate 2 (refine tk1 (oi:=?_) (v:=?_) (by kernel_rfl) (by first | exact hSn | exact hHeld) ?_ ?_ ?_ ?_ ?_;rotate_left 2;(simp only [xgA,xgB,xgC];rfl);rfl;(intro wS hSw;obtain ⟨⟨S1,S2,S3,S4⟩,S5,S6⟩:=hSw;go_simp;try with_reducible rfl);(exact fun _ _ _ h=>h);(try simp only [Act.put,xgD,xgE,xgF])));refine tkE ?_)
 ((refine qaa 1 (o:=?_) (by kernel_rfl) ?_ ?_;rotate_left 1;(simp only [xgA,xgB,xgC];rfl);intro K hK);go_simp;(refine (qcr _ x l _ HM.out HX.out).mono ?_);rintro e_ wz ⟨x1,rfl,hx1,he1⟩;go_wp2_with (fail);(try clear hSn);(have hSn:=hHeld.ext he1);(refine hK.out _ _ (fun _=>hSn) ?_);clear hK K;(try simp only [Act.put,xgD,xgE,xgF]))
 ((refine qaa 3 (o:=?_) (by kernel_rfl) ?_ ?_;rotate_left 1;(simp only [xgA,xgB,xgC];rfl);intro K hK);go_simp;(refine (qiK _ 4 x1 l B b a n p z _ (HM.out.ext he1) hx1 (HI.out.ext he1) hL HD.out hBC).mono ?_);rintro e_ wz ⟨u,rfl,hu,he2⟩;go_wp2_with (fail);(try clear hSn);(have hSn:=hHeld.ext (he1.trans he2));(refine hK.out _ _ (fun _=>hSn) ?_);clear hK K;(try simp only [Act.put,xgD,xgE,xgF]))
 ((refine qaa 4 (o:=?_) (by kernel_rfl) ?_ ?_;rotate_left 1;(simp only [xgA,xgB,xgC];rfl);intro K hK);go_simp;(refine (qdD _ 4 u _ _ (HM.out.ext (he1.trans he2)) hu).mono ?_);rintro e_ wz ⟨v,rfl,hv,he3⟩;go_wp2_with (fail);(try clear hSn);(have hSn:=hHeld.ext ((he1.trans he2).trans he3));(refine hK.out _ _ (fun _=>hSn) ?_);clear hK K;(try simp only [Act.put,xgD,xgE,xgF]))
 obtain ⟨⟨q0,q1,q2,q3⟩,⟨f0,f1,f2,f3⟩,⟨r0,r1,r2,r3⟩,HF⟩:=qbT (M:=M) (w:=w) (HB.out.ext ((he1.trans he2).trans he3)) (Mx.at (by omega)) (by omega) (HE.out.trans ((he1.trans he2).trans he3)) hv Mx.sub
 ((refine qaa 5 (o:=?_) (by kernel_rfl) ?_ ?_;rotate_left 1;(simp only [xgA,xgB,xgC];rfl);intro K hK);go_simp;(refine hK.out _ _ (fun h=>absurd rfl h) ?_);clear hK K;refine qac (by kernel_rfl) ?_ _)
 clear he1 he2 he3 hx1 hu hv hHeld
 go_wp2
 exact bodyPost_ret (v:=.agg (peA v)) (by simp [results,Tryz.results26,go_sem,r0,r1,r2,r3]) rfl HF.out
theorem qpO {M:Nat->Prop} {w:World} {x y:PE} {L:Nat} {l r:List Tm} (hM:Mb M w) (hx:CRx M w L x l) (hy:CRx M w L y r):qbh M (w.alloc (.cells #[.int .i64 x.lv,.bool x.b,.slice x.a x.n x.p,.slice x.ka x.kn x.kp,.int .i64 y.lv,.bool y.b,.slice y.a y.n y.p,.slice y.ka y.kn y.kp] 33)) L (.slice (some ⟨w.heap.size,0,none⟩) 2 2) 2 (fun i=>if i=0 then l else r):=by
 have hB:=Blk.of_arr w #[.int .i64 x.lv,.bool x.b,.slice x.a x.n x.p,.slice x.ka x.kn x.kp,.int .i64 y.lv,.bool y.b,.slice y.a y.n y.p,.slice y.ka y.kn y.kp] 33 8 rfl
 have hE:Ext w (w.alloc (.cells #[.int .i64 x.lv,.bool x.b,.slice x.a x.n x.p,.slice x.ka x.kn x.kp,.int .i64 y.lv,.bool y.b,.slice y.a y.n y.p,.slice y.ka y.kn y.kp] 33)):=(Ext.refl w).alloc _
 refine ⟨by omega,.inr ⟨w.heap.size,0,2,rfl,Nat.le_refl _,by unfold maxLen;omega,⟨hB.lt,hM.new (Nat.le_refl _)⟩,fun i hi=>?_⟩⟩
 have:i=0∨i=1:=by omega
 rcases this with rfl | rfl
 ·exact ⟨_,_,_,_,hB.cell (i:=0) (by omega),hB.cell (i:=1) (by omega),hB.cell (i:=2) (by omega),hB.cell (i:=3) (by omega),hx.ext hE⟩
 ·exact ⟨_,_,_,_,hB.cell (i:=4) (by omega),hB.cell (i:=5) (by omega),hB.cell (i:=6) (by omega),hB.cell (i:=7) (by omega),hy.ext hE⟩
theorem qev (l r:List Tm):qaK 2 (fun i=>if i=0 then l else r)=l ++ r:=by
 rw [qao,qao,qg4];rfl
theorem qk3 (M:Nat->Prop) (L:Nat) (v:Value) (N:Nat) (P:Nat->List Tm) (w:World) (hM:Mb M w) (h:qbh M w L v N P) (hL:dlen (nrm (qaK N P))<=1099511627776):Calls Tryz.prog 57 #[v] w (qa3 M w L (qaK N P)):=(qoj L M v N P w hM h hL).mono fun e w' hp=>hp.x
set_option maxHeartbeats 2000000 in
theorem qk7 (M : Nat -> Prop) (x y : PE) (l r : List Tm) (w : World) (hM : Mb M w) (h : PI M w x l) (k : PI M w y r) (hL : dlen (nrm (l ++ r)) <= 1099511627776) :
  Calls Tryz.prog 36 #[.agg (peA x),.agg (peA y)] w (qa3 M w 4 (l ++ r)):=by
 obtain ⟨hE0,hP0,hP1,hB0,hM0⟩:=qkB hM x y
 have HE:=Lib.hid (hE0.trans (Ext.refl _).drew)
 have HS:Hid (SP2 w.heap.size x y _):=SP2.ext ⟨hP0,hP1⟩ (Ext.refl _).drew
 have HB:=Lib.hid (hB0.ext (Ext.refl _).drew)
 have HM:=Lib.hid (hM0.ext (Ext.refl _).drew)
 have HX:=Lib.hid ((h.more (M':=Mx M w.heap.size (w.heap.size+3)) (Mx.more (Nat.le_refl _))).ext HE.out)
 have HY:=Lib.hid ((k.more (M':=Mx M w.heap.size (w.heap.size+3)) (Mx.more (Nat.le_refl _))).ext HE.out)
 clear hE0 hP0 hP1 hB0 hM0 h k
 go_enter Tryz.func36,Tryz.ntmps36
 go_wp2
 refine qae (SP2 w.heap.size x y) 7 (by kernel_rfl) HS.out (fun hHeld=>?_)
 (refine tkB [0,2] ?_;(iterate 2 (refine tk1 (oi:=?_) (v:=?_) (by kernel_rfl) (by first | exact hSn | exact hHeld) ?_ ?_ ?_ ?_ ?_;rotate_left 2;(simp only [xgA,xgB,xgC];rfl);rfl;(intro wS hSw;obtain ⟨⟨S1,S2,S3,S4⟩,S5,S6,S7,S8⟩:=hSw;go_simp;try with_reducible rfl);(exact fun _ _ _ h=>h);(try simp only [Act.put,xgD,xgE,xgF])));refine tkE ?_)
 ((refine qaa 1 (o:=?_) (by kernel_rfl) ?_ ?_;rotate_left 1;(simp only [xgA,xgB,xgC];rfl);intro K hK);go_simp;(refine (qcr _ x l _ HM.out HX.out).mono ?_);rintro e_ wz ⟨x1,rfl,hx1,he1⟩;go_wp2_with (fail);(try clear hSn);(have hSn:=hHeld.ext he1);(refine hK.out _ _ (fun _=>hSn) ?_);clear hK K;(try simp only [Act.put,xgD,xgE,xgF]))
 ((refine qaa 3 (o:=?_) (by kernel_rfl) ?_ ?_;rotate_left 1;(simp only [xgA,xgB,xgC];rfl);intro K hK);go_simp;(refine (qcr _ y r _ (HM.out.ext he1) (HY.out.ext he1)).mono ?_);rintro e_ wz ⟨y1,rfl,hy1,he2⟩;go_wp2_with (fail);(try clear hSn);(have hSn:=hHeld.ext (he1.trans he2));(refine hK.out _ _ (fun _=>hSn) ?_);clear hK K;(try simp only [Act.put,xgD,xgE,xgF]))
 rename_i wz
 have hM3:=HM.out.ext (he1.trans he2)
 have hkr:=qpO hM3 (hx1.ext he2) hy1
 have he3:Ext _ (wz.alloc (.cells #[.int .i64 x1.lv,.bool x1.b,.slice x1.a x1.n x1.p,.slice x1.ka x1.kn x1.kp,.int .i64 y1.lv,.bool y1.b,.slice y1.a y1.n y1.p,.slice y1.ka y1.kn y1.kp] 33)):=(he1.trans he2).alloc _
 (refine qaa 4 (o:=?_) (by kernel_rfl) ?_ ?_;rotate_left 1;(simp only [xgA,xgB,xgC];rfl);intro K hK)
 go_simp
 refine hK.out _ _ (fun _=>hHeld.ext he3) ?_
 clear hK K
 (try simp only [Act.put,xgD,xgE,xgF])
 ((refine qaa 5 (o:=?_) (by kernel_rfl) ?_ ?_;rotate_left 1;(simp only [xgA,xgB,xgC];rfl);intro K hK);go_simp;(refine (qk3 _ 4 _ 2 _ _ (HM.out.ext he3) hkr (by rw [qev];exact hL)).mono ?_);rintro e_ wz ⟨u,rfl,hu,he4⟩;go_wp2_with (fail);(try clear hSn);(have hSn:=hHeld.ext (he3.trans he4));(refine hK.out _ _ (fun _=>hSn) ?_);clear hK K;(try simp only [Act.put,xgD,xgE,xgF]))
 rw [qev] at hu
 ((refine qaa 6 (o:=?_) (by kernel_rfl) ?_ ?_;rotate_left 1;(simp only [xgA,xgB,xgC];rfl);intro K hK);go_simp;(refine (qdD _ 4 u _ _ (HM.out.ext (he3.trans he4)) hu).mono ?_);rintro e_ wz ⟨v,rfl,hv,he5⟩;go_wp2_with (fail);(try clear hSn);(have hSn:=hHeld.ext ((he3.trans he4).trans he5));(refine hK.out _ _ (fun _=>hSn) ?_);clear hK K;(try simp only [Act.put,xgD,xgE,xgF]))
 obtain ⟨⟨q0,q1,q2,q3⟩,⟨f0,f1,f2,f3⟩,⟨r0,r1,r2,r3⟩,HF⟩:=qbT (M:=M) (w:=w) (HB.out.ext ((he3.trans he4).trans he5)) (Mx.at (by omega)) (by omega) (HE.out.trans ((he3.trans he4).trans he5)) hv Mx.sub
 ((refine qaa 7 (o:=?_) (by kernel_rfl) ?_ ?_;rotate_left 1;(simp only [xgA,xgB,xgC];rfl);intro K hK);go_simp;(refine hK.out _ _ (fun h=>absurd rfl h) ?_);clear hK K;refine qac (by kernel_rfl) ?_ _)
 clear he1 he2 he3 he4 he5 hx1 hy1 hu hv hHeld hkr hM3
 go_wp2
 exact bodyPost_ret (v:=.agg (peA v)) (by simp [results,Tryz.results36,go_sem,r0,r1,r2,r3]) rfl HF.out




theorem CRx.node {M:Nat->Prop} {w:World} {L:Nat} {x:PE} {l:List Tm} (h:CRx M w L x l) (hl:x.lv≠0) : ∃ (D b off:Nat) (P:Nat->List Tm),x.lv=(D:Int)+1/\D+1<=4/\D+1<=L/\x.b=false/\x.n=0/\x.ka=some ⟨b,off,none⟩/\2<=x.kn/\x.kn<=1099511627776/\x.kn<=x.kp/\x.kp<=maxLen/\b<w.heap.size /\ ¬ M b/\(∀ i,i<x.kn->Low D (P i)) /\ ¬ Sim (P (x.kn - 1)) []/\Sim (poly (D+1) x.kn P) l/\(nrm (poly (D+1) x.kn P)<=nrm l) /\ ∀ i,i<x.kn -> ∃ y,qa6 w b (off+i*4) y/\CRx M w D y (P i)/\0<=y.lv/\y.lv<=D:=by
 unfold CRx at h
 obtain ⟨D,hDe,hD4,hDL,a',p',b,off,n,cap,P,hc1,hc2,hc3,hn2,hnL,hnc,hcm,hb,hMb,hkid,hlow,hnz,hsim,hnr⟩:=h.node_inv hl
 simp only [Value.bool.injEq,Value.slice.injEq] at hc1 hc2 hc3
 obtain ⟨h1,h2,h3⟩:=hc3
 refine ⟨D,b,off,P,hDe,hD4,hDL,hc1,hc2.2.1,h1,by omega,by omega,by omega,by omega,hb,hMb,fun i hi=>hlow i (by omega),by rw [h2];exact hnz,by rw [h2];exact hsim,by rw [h2];exact hnr,fun i hi=>?_⟩
 obtain ⟨e0,e1,e2,e3,z0,z1,z2,z3,hc⟩:=hkid i (by omega)
 obtain ⟨y,rfl,rfl,rfl,rfl,hy,h5,h6,_⟩:=hc.pe
 exact ⟨y,⟨z0,z1,z2,z3⟩,hy,h5,h6⟩
theorem CRx.lev {M:Nat->Prop} {w:World} {L:Nat} {x:PE} {l:List Tm} (h:CRx M w L x l):0<=x.lv/\x.lv<=L/\x.lv<=4:=by
 obtain ⟨y,e0,_,_,_,_,h1,h2,h3⟩:=CR.pe h
 simp only [Value.int.injEq,true_and] at e0
 rw [e0];exact ⟨h1,h2,h3⟩
theorem CRx.val {M:Nat->Prop} {w:World} {L:Nat} {x:PE} {l:List Tm} (h:CRx M w L x l) : ∃ z,qbt M w (.bool x.b) (.slice x.a x.n x.p) z/\(x.lv≠0->z=0)/\(x.lv=0->Sim [(z,Mo.zero)] l/\x.kn=0):=by
 obtain ⟨t,h1,h2,h3,h4⟩:=h
 have e:x.lv=t.1:=by have:=h1.1;simpa using this
 refine ⟨t.2.1.val,h1.2.2.1.toV,fun hl=>?_,fun hl=>⟨?_,?_⟩⟩
 ·obtain ⟨_,g2,g3,_⟩:=qbg h2 (by omega)
  unfold qcq.val sgn;rw [g2,g3];rfl
 ·rw [qaF (by omega)] at h4;exact h4
 ·obtain ⟨g1,_⟩:=qbV h2 (by omega)
  obtain ⟨_,_,_,ka,kp,hk⟩:=h1.form
  simp only [Value.slice.injEq] at hk
  omega
end Go.Proofs.YtlmipmebdelgbaaGreat
