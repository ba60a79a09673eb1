/- Mh -/
import Derived.Test.YtmcfpnmoklnhoaaGreatMg
set_option linter.unusedVariables false
set_option maxRecDepth 100000
set_option maxHeartbeats 400000000
set_option linter.unusedSimpArgs false
namespace Go.Proofs.YtmcfpnmoklnhoaaGreat
open Go.RowKit
def PI(M:Nat->Prop)(w:World)(x:PE)(l:List Tm):Prop:=∃d,∃t:RT d,RR M w d t (.int .i64 x.lv) (.bool x.b) (.slice x.a x.n x.p) (.slice x.ka x.kn x.kp)/\(gM d t=true\/TB d t)/\af (terms d t) l
section
variable{M M':Nat->Prop}{w w':World}{x:PE}{l r:List Tm}
theorem PI.ext(h:PI M w x l)(he:Ext w w'):PI M w' x l:=by
 obtain⟨d,t,h1,h2⟩:=h;exact⟨d,t,RR.ext h1 he,h2⟩
theorem PI.more(h:PI M w x l)(hm:∀g,M' g->M g\/w.heap.size<=g):PI M' w x l:=by
 obtain⟨d,t,h1,h2⟩:=h;exact⟨d,t,RR.more hm h1,h2⟩
theorem aN.pi{L:Nat}(h:aN M w L x l):PI M w x l:=by
 obtain⟨t,h1,h2,h3,h4⟩:=h;exact⟨_,t,h1,.inl h2,h4⟩
end
theorem RR.pe{M:Nat->Prop}{w:World}{d:Nat}{t:RT d}{c0 c1 c2 c3:Value}(h:RR M w d t c0 c1 c2 c3):∃x:PE,c0=.int .i64 x.lv/\c1=.bool x.b/\c2=.slice x.a x.n x.p/\c3=.slice x.ka x.kn x.kp:=by
 cases d with
 |zero=>exact h.elim
 |succ d=>
  obtain⟨rfl,rfl,⟨a,p,rfl⟩,ka,kp,rfl⟩:=h.form;exact⟨⟨t.1,t.2.1.neg,a,t.2.1.n,p,ka,t.2.2.1,kp⟩,rfl,rfl,rfl,rfl⟩
def dO(M:Nat->Prop)(w:World)(L:Nat)(l:List Tm)(e:Ending)(w':World):Prop:=∃y:PE,e=.returned (.agg (ak y))/\aN M w' L y l/\Ext w w'
theorem vY.x{M:Nat->Prop}{w w':World}{L:Nat}{l:List Tm}{e:Ending}(h:vY M w L l e w'):dO M w L l e w':=by
 obtain⟨c0,c1,c2,c3,rfl,h2,h3⟩:=h;obtain⟨y,rfl,rfl,rfl,rfl,hy,_⟩:=h2.pe;exact⟨y,rfl,hy,h3⟩
abbrev zA:Array Value:= #[.int .i64 0,.bool false,.slice none 0 0,.slice none 0 0]
theorem iF{M M':Nat->Prop}{w W:World}{g:Nat}{L:Nat}{l:List Tm}{y:PE}(hB:aG W g 33 4 (arr zA))(hg:M' g)(hw:w.heap.size<=g)(he:Ext w W)(hc:aN M' W L y l)(hm:∀g,M g->M' g):
 (W.cell? ⟨g,0,none⟩=some (.int .i64 0)/\W.cell? ⟨g,1,none⟩=some (.bool false)/\W.cell? ⟨g,2,none⟩=some (.slice none 0 0)/\W.cell? ⟨g,3,none⟩=some (.slice none 0 0))/\
 (W.frozen? ⟨g,0,none⟩=false/\W.frozen? ⟨g,1,none⟩=false/\W.frozen? ⟨g,2,none⟩=false/\W.frozen? ⟨g,3,none⟩=false)/\
 (((((W.setCell ⟨g,0,none⟩ (.int .i64 y.lv)).setCell ⟨g,1,none⟩ (.bool y.b)).setCell ⟨g,2,none⟩ (.slice y.a y.n y.p)).setCell ⟨g,3,none⟩ (.slice y.ka y.kn y.kp)).cell? ⟨g,0,none⟩=some (.int .i64 y.lv)/\((((W.setCell ⟨g,0,none⟩ (.int .i64 y.lv)).setCell ⟨g,1,none⟩ (.bool y.b)).setCell ⟨g,2,none⟩ (.slice y.a y.n y.p)).setCell ⟨g,3,none⟩ (.slice y.ka y.kn y.kp)).cell? ⟨g,1,none⟩=some (.bool y.b)/\
  ((((W.setCell ⟨g,0,none⟩ (.int .i64 y.lv)).setCell ⟨g,1,none⟩ (.bool y.b)).setCell ⟨g,2,none⟩ (.slice y.a y.n y.p)).setCell ⟨g,3,none⟩ (.slice y.ka y.kn y.kp)).cell? ⟨g,2,none⟩=some (.slice y.a y.n y.p)/\((((W.setCell ⟨g,0,none⟩ (.int .i64 y.lv)).setCell ⟨g,1,none⟩ (.bool y.b)).setCell ⟨g,2,none⟩ (.slice y.a y.n y.p)).setCell ⟨g,3,none⟩ (.slice y.ka y.kn y.kp)).cell? ⟨g,3,none⟩=some (.slice y.ka y.kn y.kp))/\
 Hid (dO M w L l (.returned (.agg (ak y))) ((((W.setCell ⟨g,0,none⟩ (.int .i64 y.lv)).setCell ⟨g,1,none⟩ (.bool y.b)).setCell ⟨g,2,none⟩ (.slice y.a y.n y.p)).setCell ⟨g,3,none⟩ (.slice y.ka y.kn y.kp))):=by
 obtain⟨h1,h2,h3,h4⟩:=vR (M:=M) (w:=w) hB hg hw he hc hm;exact⟨h1,h2,h3,h4.out.x⟩
def P4(w:World)(b:Nat)(x:PE):Prop:=w.cell? ⟨b,0,none⟩=some (.int .i64 x.lv)/\w.cell? ⟨b,1,none⟩=some (.bool x.b)/\w.cell? ⟨b,2,none⟩=some (.slice x.a x.n x.p)/\w.cell? ⟨b,3,none⟩=some (.slice x.ka x.kn x.kp)
theorem P4.ext{w w':World}{b:Nat}{x:PE}(h:P4 w b x)(he:Ext w w'):P4 w' b x:=by
 have hb:=oF _ _ h.1;unfold P4;rw[he.cell hb,he.cell hb,he.cell hb,he.cell hb];exact h
theorem aG.p4{w:World}{b:Nat}{t:TypeId}{x:PE}(h:aG w b t 4 (arr (ak x))):P4 w b x:=⟨h.cell (i:=0) (by omega),h.cell (i:=1) (by omega),h.cell (i:=2) (by omega),h.cell (i:=3) (by omega)⟩
theorem Kb{M:Nat->Prop}{w:World}(hM:Mb M w)(x:PE):Ext w ((w.alloc (.cells (ak x) 33)).alloc (.cells zA 33))/\P4 ((w.alloc (.cells (ak x) 33)).alloc (.cells zA 33)) w.heap.size x/\
 aG ((w.alloc (.cells (ak x) 33)).alloc (.cells zA 33)) (w.heap.size+1) 33 4 (arr zA)/\Mb (Mx M w.heap.size (w.heap.size+2)) ((w.alloc (.cells (ak x) 33)).alloc (.cells zA 33)):=by
 have h1:=aG.bq (w.alloc (.cells (ak x) 33)) zA 33 4 rfl;simp only[World.size_alloc]at h1;exact⟨((aA w).alloc _).alloc _,((aG.bq w (ak x) 33 4 rfl).alloc _).p4,h1,Mx.mb hM (by simp;omega) (by simp)⟩
theorem yN{M:Nat->Prop}{w:World}(hM:Mb M w)(x y:PE):Ext w (((w.alloc (.cells (ak x) 33)).alloc (.cells (ak y) 33)).alloc (.cells zA 33))/\P4 (((w.alloc (.cells (ak x) 33)).alloc (.cells (ak y) 33)).alloc (.cells zA 33)) w.heap.size x/\
 P4 (((w.alloc (.cells (ak x) 33)).alloc (.cells (ak y) 33)).alloc (.cells zA 33)) (w.heap.size+1) y/\
 aG (((w.alloc (.cells (ak x) 33)).alloc (.cells (ak y) 33)).alloc (.cells zA 33)) (w.heap.size+2) 33 4 (arr zA)/\Mb (Mx M w.heap.size (w.heap.size+3)) (((w.alloc (.cells (ak x) 33)).alloc (.cells (ak y) 33)).alloc (.cells zA 33)):=by
 have h1:=aG.bq ((w.alloc (.cells (ak x) 33)).alloc (.cells (ak y) 33)) zA 33 4 rfl;have h2:=(aG.bq (w.alloc (.cells (ak x) 33)) (ak y) 33 4 rfl).alloc (.cells zA 33);simp only[World.size_alloc]at h1 h2;exact⟨(((aA w).alloc _).alloc _).alloc _,(((aG.bq w (ak x) 33 4 rfl).alloc _).alloc _).p4,h2.p4,h1,Mx.mb hM (by simp;omega) (by simp)⟩
theorem yj(M:Nat->Prop)(x:PE)(l:List Tm)(w:World)(hM:Mb M w)(h:PI M w x l):Calls Tryz.prog 71 #[.agg (ak x)] w (dO M w 4 l):=by
 obtain⟨d,t,h1,h2,h3⟩:=h;exact(qAX M d t _ _ _ _ w hM h1 h2).mono λe w' hp=>(hp.dh h3).x
theorem Je(M:Nat->Prop)(L:Nat)(x:PE)(l:List Tm)(w:World)(hM:Mb M w)(h:aN M w L x l):Calls Tryz.prog 57 #[.agg (ak x)] w (dO M w L l):=
 (qAY L M l _ _ _ _ w hM h).mono λe w' hp=>hp.x
theorem Jc(M:Nat->Prop)(x:PE)(l:List Tm)(w:World)(hM:Mb M w)(h:PI M w x l):Calls Tryz.prog 68 #[.agg (ak x)] w (dO M w 4 l):=by
 obtain⟨hE,⟨x0,x1,x2,x3⟩,hB,fu⟩:=Kb hM x;have h2:=(h.more (M':=Mx M w.heap.size (w.heap.size+2)) (Mx.more (aI _))).ext hE
 go_enter Tryz.func68,Tryz.ntmps68
 go_wp2_with (fail);refine(yj _ x l _ fu h2).mono ?_;rintro e w1 ⟨y,rfl,hy,az⟩;go_wp2_with (fail);refine(Je _ 4 y l _ (fu.ext az) hy).mono ?_;rintro e w2 ⟨z,rfl,hz,aJ⟩;obtain⟨⟨q0,q1,q2,q3⟩,⟨f0,f1,f2,f3⟩,⟨r0,r1,r2,r3⟩,HF⟩:=iF (M:=M) (w:=w) ((hB.ext az).ext aJ) (Mx.at (by omega)) (by omega) ((hE.trans az).trans aJ) hz Mx.sub;clear hE hB fu h2 az aJ hy hz h x0 x1 x2 x3;go_wp2;exact bu (v:=.agg (ak z)) (by simp[results,Tryz.results68,go_sem,r0,r1,r2,r3]) rfl HF.out
theorem Jb(M:Nat->Prop)(x:PE)(l:List Tm)(w:World)(hM:Mb M w)(h:PI M w x l):Calls Tryz.prog 72 #[.agg (ak x)] w λe w'=>∃b:Bool,e=.returned (.bool b)/\(b=true↔af l [])/\Ext w w':=by
 have hE:Ext w (w.alloc (.cells (ak x) 33)):=(aA w).alloc _;have fu:Mb M (w.alloc (.cells (ak x) 33)):=hM.ext hE
 go_enter Tryz.func72,Tryz.ntmps72
 go_wp2_with (fail);refine(yj _ x l _ fu (h.ext hE)).mono ?_;rintro e w1 ⟨y,rfl,hy,az⟩;have hz:=CR.SB hy;have HZ:=ae hz;clear hz;go_wp2_with (fail);refine(Jf y.lv y.b y.a y.n y.p y.ka y.kn y.kp w1).mono ?_;rintro e w2 ⟨rfl,aJ⟩;go_wp2;go_ret;exact⟨_,rfl,HZ.out,(hE.trans az).trans aJ⟩
theorem OQ(M:Nat->Prop)(b:Bool)(a:Option Addr)(n p:Nat)(z:Int)(w:World)(hM:Mb M w)(h:dQ M w (.bool b) (.slice a n p) z):Calls Tryz.prog 40 #[.agg #[.bool b,.slice a n p]] w (dO M w 0 [(z,Mo.zero)]):=by
 have hE:Ext w ((w.alloc (.cells #[.bool b,.slice a n p] 30)).alloc (.cells zA 33)):=((aA w).alloc _).alloc _;have hB:=aG.bq (w.alloc (.cells #[.bool b,.slice a n p] 30)) zA 33 4 rfl;simp only[World.size_alloc]at hB;have fu:Mb (Mx M w.heap.size (w.heap.size+2)) ((w.alloc (.cells #[.bool b,.slice a n p] 30)).alloc (.cells zA 33)):=Mx.mb hM (by simp;omega) (by simp);have h2:=(h.more (M':=Mx M w.heap.size (w.heap.size+2)) (Mx.more (aI _))).ext hE
 go_enter Tryz.func40,Tryz.ntmps40
 go_wp2_with (fail);refine(Ou _ _ z _ fu h2).mono ?_;rintro e w1 ⟨d0,d1,rfl,hc,az⟩;obtain⟨b2,a2,n2,p2,rfl,rfl⟩:=hc.form;obtain⟨⟨q0,q1,q2,q3⟩,⟨f0,f1,f2,f3⟩,⟨r0,r1,r2,r3⟩,HF⟩:=iF (M:=M) (w:=w) (y:=⟨0,b2,a2,n2,p2,none,0,0⟩) (hB.ext az) (Mx.at (by omega)) (by omega) (hE.trans az) (CR.const hc 0) Mx.sub;clear hE hB fu h2 az hc h;go_wp2;exact bu (v:=.agg #[.int .i64 0,.bool b2,.slice a2 n2 p2,.slice none 0 0]) (by simp[results,Tryz.results40,go_sem,r0,r1,r2,r3]) rfl HF.out
def jU(b:Nat)(x y:PE)(w:World):Prop:=P4 w b x/\P4 w (b+1) y
theorem jU.ext{b:Nat}{x y:PE}{w w':World}(h:jU b x y w)(he:Ext w w'):jU b x y w':=⟨h.1.ext he,h.2.ext he⟩
def MZ(b:Nat)(x:PE)(c0 c1:Value)(w:World):Prop:=P4 w b x/\w.cell? ⟨b+1,0,none⟩=some c0/\w.cell? ⟨b+1,1,none⟩=some c1
theorem MZ.ext{b:Nat}{x:PE}{c0 c1:Value}{w w':World}(h:MZ b x c0 c1 w)(he:Ext w w'):MZ b x c0 c1 w':=by
 have hb:=oF _ _ h.2.1;exact⟨h.1.ext he,by rw[he.cell hb];exact h.2.1,by rw[he.cell hb];exact h.2.2⟩
theorem Yo(M:Nat->Prop)(L:Nat)(x y:PE)(l r:List Tm)(B C:Nat)(w:World)(hM:Mb M w)(h:aN M w L x l)(k:aN M w L y r)(hL:aH (aK l)+aH (aK r)<=1099511627776)(hB:bH B l)(hC:bH C r)(oH:(B+1)*(C+1)<=1099511627776):Calls Tryz.prog 118 #[.agg (ak x),.agg (ak y)] w (dO M w L (aF l r)):=
 (qAZ L M l r B C _ _ _ _ _ _ _ _ w hM h k hL hB hC oH).mono λe w' hp=>hp.x
theorem qA1(M:Nat->Prop)(L:Nat)(x y:PE)(l r:List Tm)(w:World)(h:aN M w L x l)(k:aN M w L y r):Calls Tryz.prog 70 #[.agg (ak x),.agg (ak y)] w λe w'=>e=.returned (.bool (uK l r))/\Ext w w':=qA0 L M l r _ _ _ _ _ _ _ _ w h k
theorem aN.up{M:Nat->Prop}{w:World}{L D:Nat}{x:PE}{l:List Tm}(h:aN M w L x l)(hl:L<=D):aN M w D x l:=CR.up h hl
theorem aN.dh{M:Nat->Prop}{w:World}{L:Nat}{x:PE}{l r:List Tm}(h:aN M w L x l)(hs:af l r):aN M w L x r:=CR.dh h hs
theorem aN.nn{M:Nat->Prop}{w:World}{L:Nat}{x:PE}{l:List Tm}(h:aN M w L x l):∀m:Mo,m.nn=false->aL l m=0:=CR.nn h
theorem qbm(c:Int):bH 0 [(c,Mo.zero)]:=by
 intro m hm k
 have:m=Mo.zero:=by
  refine eF λh=>hm ?_;simp only[aL];rw[ah (λe=>h e.symm)];rfl
 rw[this,uw];exact Int.le_refl _
theorem qAV(M:Nat->Prop)(x y:PE)(l r:List Tm)(w:World)(hM:Mb M w)(h:PI M w x l)(k:PI M w y r):Calls Tryz.prog 16 #[.agg (ak x),.agg (ak y)] w λe w'=>∃b:Bool,e=.returned (.bool b)/\(b=true↔af l r)/\Ext w w':=by
 have hE:Ext w ((w.alloc (.cells (ak x) 33)).alloc (.cells (ak y) 33)):=((aA w).alloc _).alloc _;have b1:=aG.bq (w.alloc (.cells (ak x) 33)) (ak y) 33 4 rfl;simp only[World.size_alloc]at b1;have hS:jU w.heap.size x y ((w.alloc (.cells (ak x) 33)).alloc (.cells (ak y) 33)).drew:=jU.ext ⟨((aG.bq w (ak x) 33 4 rfl).alloc _).p4,b1.p4⟩ (aA _).drew;have lK:=hE.trans (aA _).drew;have HX:=ae (h.ext lK);have HY:=ae (k.ext lK);have HM:=ae (hM.ext lK);have HE:=ae lK;have HS:=ae hS;clear hE b1 hS lK h k
 go_enter Tryz.func16,Tryz.ntmps16
 go_wp2;refine gB (jU w.heap.size x y) 5 (by kernel_rfl) HS.out (λhHeld=>?_);(refine cB [0,2] ?_;(iterate 2 (refine bZ (v:=?_) ?_ ?_;rotate_left 1;(intro wS hSw;obtain⟨⟨S1,S2,S3,S4⟩,S5,S6,S7,S8⟩:=hSw;go_simp;try with_reducible rfl);(try simp only[Act.put,aB,aC,aD])));refine cK ?_);((refine aO 1 ?_;intro K hK);go_simp;(refine(yj _ x l _ HM.out HX.out).mono ?_);rintro e_ wz ⟨x1,rfl,gY,az⟩;go_wp2_with (fail);(try clear ag);(have ag:=hHeld.ext az);(refine hK.out _ _ (λ_=>ag) ?_);clear hK K;(try simp only[Act.put,aB,aC,aD]));((refine aO 3 ?_;intro K hK);go_simp;(refine(yj _ y r _ (HM.out.ext az) (HY.out.ext az)).mono ?_);rintro e_ wz ⟨y1,rfl,jh,aJ⟩;go_wp2_with (fail);(try clear ag);(have ag:=hHeld.ext (az.trans aJ));(refine hK.out _ _ (λ_=>ag) ?_);clear hK K;(try simp only[Act.put,aB,aC,aD]));((refine aO 4 ?_;intro K hK);go_simp;(refine(qA1 _ 4 x1 y1 l r _ (gY.ext aJ) jh).mono ?_);rintro e_ wz ⟨rfl,bg⟩;go_wp2_with (fail);(try clear ag);(have ag:=hHeld.ext ((az.trans aJ).trans bg));(refine hK.out _ _ (λ_=>ag) ?_);clear hK K;(try simp only[Act.put,aB,aC,aD]));((refine aO 5 ?_;intro K hK);go_simp;(refine hK.out _ _ (λh=>absurd rfl h) ?_);clear hK K;refine dX ?_);have HF:Hid (uK l r=true↔af l r):=qeR gY.nn jh.nn;have dM:=ae (HE.out.trans ((az.trans aJ).trans bg))
 clear az aJ bg gY jh hHeld;go_wp2;go_ret;exact⟨_,rfl,HF.out,dM.out⟩
theorem qoS(z:Int)(m:Mo):aK [(z,m)]=z.natAbs:=by simp[aK]
theorem qiO{M:Nat->Prop}{w:World}(hM:Mb M w)(x:PE)(c0 c1:Value):Ext w (((w.alloc (.cells (ak x) 33)).alloc (.cells #[c0,c1] 30)).alloc (.cells zA 33))/\MZ w.heap.size x c0 c1 (((w.alloc (.cells (ak x) 33)).alloc (.cells #[c0,c1] 30)).alloc (.cells zA 33))/\
 aG (((w.alloc (.cells (ak x) 33)).alloc (.cells #[c0,c1] 30)).alloc (.cells zA 33)) (w.heap.size+2) 33 4 (arr zA)/\Mb (Mx M w.heap.size (w.heap.size+3)) (((w.alloc (.cells (ak x) 33)).alloc (.cells #[c0,c1] 30)).alloc (.cells zA 33)):=by
 have h1:=aG.bq ((w.alloc (.cells (ak x) 33)).alloc (.cells #[c0,c1] 30)) zA 33 4 rfl;have h2:=(aG.bq (w.alloc (.cells (ak x) 33)) #[c0,c1] 30 2 rfl).alloc (.cells zA 33);simp only[World.size_alloc]at h1 h2;exact⟨(((aA w).alloc _).alloc _).alloc _,⟨(((aG.bq w (ak x) 33 4 rfl).alloc _).alloc _).p4,h2.cell (i:=0) (by omega),h2.cell (i:=1) (by omega)⟩,h1,Mx.mb hM (by simp;omega) (by simp)⟩
theorem qp3(M:Nat->Prop)(L:Nat)(x:PE)(l:List Tm)(B:Nat)(b:Bool)(a:Option Addr)(n p:Nat)(z:Int)(w:World)(hM:Mb M w)(h:aN M w L x l)(k:dQ M w (.bool b) (.slice a n p) z)(hL:aH (aK l)+aH z.natAbs<=1099511627776)(hB:bH B l)(oH:B+1<=1099511627776):
 Calls Tryz.prog 98 #[.agg (ak x),.agg #[.bool b,.slice a n p]] w (dO M w L (aF l [(z,Mo.zero)])):=by
 obtain⟨aV,Ho,bL,dD⟩:=qiO hM x (.bool b) (.slice a n p);have HE:=ae (aV.trans (aA _).drew);have HS:=ae (Ho.ext (aA _).drew);have HB:=ae (bL.ext (aA _).drew);have HM:=ae (dD.ext (aA _).drew);have HX:=ae ((h.more (M':=Mx M w.heap.size (w.heap.size+3)) (Mx.more (aI _))).ext HE.out);have HI:=ae ((k.more (M':=Mx M w.heap.size (w.heap.size+3)) (Mx.more (aI _))).ext HE.out);have HD:=ae hB;clear aV Ho bL dD h k hB
 go_enter Tryz.func98,Tryz.ntmps98
 go_wp2;refine gB (MZ w.heap.size x (.bool b) (.slice a n p)) 4 (by kernel_rfl) HS.out (λhHeld=>?_);(refine cB [0,1] ?_;(iterate 2 (refine bZ (v:=?_) ?_ ?_;rotate_left 1;(intro wS hSw;obtain⟨⟨S1,S2,S3,S4⟩,S5,S6⟩:=hSw;go_simp;try with_reducible rfl);(try simp only[Act.put,aB,aC,aD])));refine cK ?_);((refine aO 2 ?_;intro K hK);go_simp;(refine(OQ _ b a n p z _ HM.out HI.out).mono ?_);rintro e_ wz ⟨y,rfl,hy,az⟩;go_wp2_with (fail);(try clear ag);(have ag:=hHeld.ext az);(refine hK.out _ _ (λ_=>ag) ?_);clear hK K;(try simp only[Act.put,aB,aC,aD]));((refine aO 3 ?_;intro K hK);go_simp;(refine(Yo _ L x y l [(z,Mo.zero)] B 0 _ (HM.out.ext az) (HX.out.ext az) (hy.up (bK _)) (by rw[qoS];exact hL) HD.out (qbm z) (by omega)).mono ?_);rintro e_ wz ⟨v,rfl,hv,aJ⟩;go_wp2_with (fail);(try clear ag);(have ag:=hHeld.ext (az.trans aJ));(refine hK.out _ _ (λ_=>ag) ?_);clear hK K;(try simp only[Act.put,aB,aC,aD]));obtain⟨⟨q0,q1,q2,q3⟩,⟨f0,f1,f2,f3⟩,⟨r0,r1,r2,r3⟩,HF⟩:=iF (M:=M) (w:=w) (HB.out.ext (az.trans aJ)) (Mx.at (by omega)) (by omega) (HE.out.trans (az.trans aJ)) hv Mx.sub;((refine aO 4 ?_;intro K hK);go_simp;(refine hK.out _ _ (λh=>absurd rfl h) ?_);clear hK K;refine dX ?_);clear az aJ hy hv hHeld;go_wp2;exact bu (v:=.agg (ak v)) (by simp[results,Tryz.results98,go_sem,r0,r1,r2,r3]) rfl HF.out
theorem Tv(M:Nat->Prop)(x y:PE)(l r:List Tm)(B C:Nat)(w:World)(hM:Mb M w)(h:PI M w x l)(k:PI M w y r)(hL:aH (aK l)+aH (aK r)<=1099511627776)(hB:bH B l)(hC:bH C r)(oH:(B+1)*(C+1)<=1099511627776):
 Calls Tryz.prog 55 #[.agg (ak x),.agg (ak y)] w (dO M w 4 (aF l r)):=by
 obtain⟨aV,Hl,vH,bL,dD⟩:=yN hM x y;have HE:=ae (aV.trans (aA _).drew);have HS:Hid (jU w.heap.size x y _):=jU.ext ⟨Hl,vH⟩ (aA _).drew;have HB:=ae (bL.ext (aA _).drew);have HM:=ae (dD.ext (aA _).drew);have HX:=ae ((h.more (M':=Mx M w.heap.size (w.heap.size+3)) (Mx.more (aI _))).ext HE.out);have HY:=ae ((k.more (M':=Mx M w.heap.size (w.heap.size+3)) (Mx.more (aI _))).ext HE.out);clear aV Hl vH bL dD h k;have nZ:=ae hB;have Zp:=ae hC;clear hB hC
 go_enter Tryz.func55,Tryz.ntmps55
 go_wp2;refine gB (jU w.heap.size x y) 6 (by kernel_rfl) HS.out (λhHeld=>?_);(refine cB [0,2] ?_;(iterate 2 (refine bZ (v:=?_) ?_ ?_;rotate_left 1;(intro wS hSw;obtain⟨⟨S1,S2,S3,S4⟩,S5,S6,S7,S8⟩:=hSw;go_simp;try with_reducible rfl);(try simp only[Act.put,aB,aC,aD])));refine cK ?_);((refine aO 1 ?_;intro K hK);go_simp;(refine(yj _ x l _ HM.out HX.out).mono ?_);rintro e_ wz ⟨x1,rfl,gY,az⟩;go_wp2_with (fail);(try clear ag);(have ag:=hHeld.ext az);(refine hK.out _ _ (λ_=>ag) ?_);clear hK K;(try simp only[Act.put,aB,aC,aD]));((refine aO 3 ?_;intro K hK);go_simp;(refine(yj _ y r _ (HM.out.ext az) (HY.out.ext az)).mono ?_);rintro e_ wz ⟨y1,rfl,jh,aJ⟩;go_wp2_with (fail);(try clear ag);(have ag:=hHeld.ext (az.trans aJ));(refine hK.out _ _ (λ_=>ag) ?_);clear hK K;(try simp only[Act.put,aB,aC,aD]));((refine aO 4 ?_;intro K hK);go_simp;(refine(Yo _ 4 x1 y1 l r B C _ (HM.out.ext (az.trans aJ)) (gY.ext aJ) jh hL nZ.out Zp.out oH).mono ?_);rintro e_ wz ⟨u,rfl,hu,bg⟩;go_wp2_with (fail);(try clear ag);(have ag:=hHeld.ext ((az.trans aJ).trans bg));(refine hK.out _ _ (λ_=>ag) ?_);clear hK K;(try simp only[Act.put,aB,aC,aD]));((refine aO 5 ?_;intro K hK);go_simp;(refine(Je _ 4 u _ _ (HM.out.ext ((az.trans aJ).trans bg)) hu).mono ?_);rintro e_ wz ⟨v,rfl,hv,bB⟩;go_wp2_with (fail);(try clear ag);(have ag:=hHeld.ext (((az.trans aJ).trans bg).trans bB));(refine hK.out _ _ (λ_=>ag) ?_);clear hK K;(try simp only[Act.put,aB,aC,aD]))
 obtain⟨⟨q0,q1,q2,q3⟩,⟨f0,f1,f2,f3⟩,⟨r0,r1,r2,r3⟩,HF⟩:=iF (M:=M) (w:=w) (HB.out.ext (((az.trans aJ).trans bg).trans bB)) (Mx.at (by omega)) (by omega) (HE.out.trans (((az.trans aJ).trans bg).trans bB)) hv Mx.sub;((refine aO 6 ?_;intro K hK);go_simp;(refine hK.out _ _ (λh=>absurd rfl h) ?_);clear hK K;refine dX ?_);clear az aJ bg bB gY jh hu hv hHeld;go_wp2;exact bu (v:=.agg (ak v)) (by simp[results,Tryz.results55,go_sem,r0,r1,r2,r3]) rfl HF.out
theorem qeF(M:Nat->Prop)(x:PE)(l:List Tm)(B:Nat)(b:Bool)(a:Option Addr)(n p:Nat)(z:Int)(w:World)(hM:Mb M w)(h:PI M w x l)(k:dQ M w (.bool b) (.slice a n p) z)(hL:aH (aK l)+aH z.natAbs<=1099511627776)(hB:bH B l)(oH:B+1<=1099511627776):
 Calls Tryz.prog 74 #[.agg (ak x),.agg #[.bool b,.slice a n p]] w (dO M w 4 (aF l [(z,Mo.zero)])):=by
 obtain⟨aV,Ho,bL,dD⟩:=qiO hM x (.bool b) (.slice a n p);have HE:=ae (aV.trans (aA _).drew);have HS:=ae (Ho.ext (aA _).drew);have HB:=ae (bL.ext (aA _).drew);have HM:=ae (dD.ext (aA _).drew);have HX:=ae ((h.more (M':=Mx M w.heap.size (w.heap.size+3)) (Mx.more (aI _))).ext HE.out);have HI:=ae ((k.more (M':=Mx M w.heap.size (w.heap.size+3)) (Mx.more (aI _))).ext HE.out);have HD:=ae hB;clear aV Ho bL dD h k hB
 go_enter Tryz.func74,Tryz.ntmps74
 go_wp2;refine gB (MZ w.heap.size x (.bool b) (.slice a n p)) 5 (by kernel_rfl) HS.out (λhHeld=>?_);(refine cB [0,2] ?_;(iterate 2 (refine bZ (v:=?_) ?_ ?_;rotate_left 1;(intro wS hSw;obtain⟨⟨S1,S2,S3,S4⟩,S5,S6⟩:=hSw;go_simp;try with_reducible rfl);(try simp only[Act.put,aB,aC,aD])));refine cK ?_);((refine aO 1 ?_;intro K hK);go_simp;(refine(yj _ x l _ HM.out HX.out).mono ?_);rintro e_ wz ⟨x1,rfl,gY,az⟩;go_wp2_with (fail);(try clear ag);(have ag:=hHeld.ext az);(refine hK.out _ _ (λ_=>ag) ?_);clear hK K;(try simp only[Act.put,aB,aC,aD]));((refine aO 3 ?_;intro K hK);go_simp;(refine(qp3 _ 4 x1 l B b a n p z _ (HM.out.ext az) gY (HI.out.ext az) hL HD.out oH).mono ?_);rintro e_ wz ⟨u,rfl,hu,aJ⟩;go_wp2_with (fail);(try clear ag);(have ag:=hHeld.ext (az.trans aJ));(refine hK.out _ _ (λ_=>ag) ?_);clear hK K;(try simp only[Act.put,aB,aC,aD]));((refine aO 4 ?_;intro K hK);go_simp;(refine(Je _ 4 u _ _ (HM.out.ext (az.trans aJ)) hu).mono ?_);rintro e_ wz ⟨v,rfl,hv,bg⟩;go_wp2_with (fail);(try clear ag);(have ag:=hHeld.ext ((az.trans aJ).trans bg));(refine hK.out _ _ (λ_=>ag) ?_);clear hK K;(try simp only[Act.put,aB,aC,aD]));obtain⟨⟨q0,q1,q2,q3⟩,⟨f0,f1,f2,f3⟩,⟨r0,r1,r2,r3⟩,HF⟩:=iF (M:=M) (w:=w) (HB.out.ext ((az.trans aJ).trans bg)) (Mx.at (by omega)) (by omega) (HE.out.trans ((az.trans aJ).trans bg)) hv Mx.sub
 ((refine aO 5 ?_;intro K hK);go_simp;(refine hK.out _ _ (λh=>absurd rfl h) ?_);clear hK K;refine dX ?_);clear az aJ bg gY hu hv hHeld;go_wp2;exact bu (v:=.agg (ak v)) (by simp[results,Tryz.results74,go_sem,r0,r1,r2,r3]) rfl HF.out
theorem qd0{M:Nat->Prop}{w:World}{x y:PE}{L:Nat}{l r:List Tm}(hM:Mb M w)(hx:aN M w L x l)(hy:aN M w L y r):eY M (w.alloc (.cells #[.int .i64 x.lv,.bool x.b,.slice x.a x.n x.p,.slice x.ka x.kn x.kp,.int .i64 y.lv,.bool y.b,.slice y.a y.n y.p,.slice y.ka y.kn y.kp] 33)) L (.slice (some ⟨w.heap.size,0,none⟩) 2 2) 2 (λi=>if i=0 then l else r):=by
 have hB:=aG.bq w #[.int .i64 x.lv,.bool x.b,.slice x.a x.n x.p,.slice x.ka x.kn x.kp,.int .i64 y.lv,.bool y.b,.slice y.a y.n y.p,.slice y.ka y.kn y.kp] 33 8 rfl;have hE:Ext w (w.alloc (.cells #[.int .i64 x.lv,.bool x.b,.slice x.a x.n x.p,.slice x.ka x.kn x.kp,.int .i64 y.lv,.bool y.b,.slice y.a y.n y.p,.slice y.ka y.kn y.kp] 33)):=(aA w).alloc _;refine⟨by omega,.inr ⟨w.heap.size,0,2,rfl,aI _,by unfold maxLen;omega,⟨hB.lt,hM.new (aI _)⟩,λi hi=>?_⟩⟩
 have:i=0\/i=1:=by omega
 rcases this with rfl|rfl
 ·exact⟨_,_,_,_,hB.cell (i:=0) (by omega),hB.cell (i:=1) (by omega),hB.cell (i:=2) (by omega),hB.cell (i:=3) (by omega),hx.ext hE⟩
 ·exact⟨_,_,_,_,hB.cell (i:=4) (by omega),hB.cell (i:=5) (by omega),hB.cell (i:=6) (by omega),hB.cell (i:=7) (by omega),hy.ext hE⟩
theorem Yi(l r:List Tm):bP 2 (λi=>if i=0 then l else r)=l++r:=by
 rw[lF,lF,qpB];rfl
theorem qpZ(M:Nat->Prop)(L:Nat)(v:Value)(N:Nat)(P:Nat->List Tm)(w:World)(hM:Mb M w)(h:eY M w L v N P)(hL:aH (aK (bP N P))<=1099511627776):Calls Tryz.prog 97 #[v] w (dO M w L (bP N P)):=(qpY L M v N P w hM h hL).mono λe w' hp=>hp.x
theorem qpW(M:Nat->Prop)(x y:PE)(l r:List Tm)(w:World)(hM:Mb M w)(h:PI M w x l)(k:PI M w y r)(hL:aH (aK (l++r))<=1099511627776):
 Calls Tryz.prog 54 #[.agg (ak x),.agg (ak y)] w (dO M w 4 (l++r)):=by
 obtain⟨aV,Hl,vH,bL,dD⟩:=yN hM x y;have HE:=ae (aV.trans (aA _).drew);have HS:Hid (jU w.heap.size x y _):=jU.ext ⟨Hl,vH⟩ (aA _).drew;have HB:=ae (bL.ext (aA _).drew);have HM:=ae (dD.ext (aA _).drew);have HX:=ae ((h.more (M':=Mx M w.heap.size (w.heap.size+3)) (Mx.more (aI _))).ext HE.out);have HY:=ae ((k.more (M':=Mx M w.heap.size (w.heap.size+3)) (Mx.more (aI _))).ext HE.out);clear aV Hl vH bL dD h k
 go_enter Tryz.func54,Tryz.ntmps54
 go_wp2;refine gB (jU w.heap.size x y) 7 (by kernel_rfl) HS.out (λhHeld=>?_);(refine cB [0,2] ?_;(iterate 2 (refine bZ (v:=?_) ?_ ?_;rotate_left 1;(intro wS hSw;obtain⟨⟨S1,S2,S3,S4⟩,S5,S6,S7,S8⟩:=hSw;go_simp;try with_reducible rfl);(try simp only[Act.put,aB,aC,aD])));refine cK ?_);((refine aO 1 ?_;intro K hK);go_simp;(refine(yj _ x l _ HM.out HX.out).mono ?_);rintro e_ wz ⟨x1,rfl,gY,az⟩;go_wp2_with (fail);(try clear ag);(have ag:=hHeld.ext az);(refine hK.out _ _ (λ_=>ag) ?_);clear hK K;(try simp only[Act.put,aB,aC,aD]));((refine aO 3 ?_;intro K hK);go_simp;(refine(yj _ y r _ (HM.out.ext az) (HY.out.ext az)).mono ?_);rintro e_ wz ⟨y1,rfl,jh,aJ⟩;go_wp2_with (fail);(try clear ag);(have ag:=hHeld.ext (az.trans aJ));(refine hK.out _ _ (λ_=>ag) ?_);clear hK K;(try simp only[Act.put,aB,aC,aD]));rename_i wz;have jD:=HM.out.ext (az.trans aJ);have qK:=qd0 jD (gY.ext aJ) jh;have bg:Ext _ (wz.alloc (.cells #[.int .i64 x1.lv,.bool x1.b,.slice x1.a x1.n x1.p,.slice x1.ka x1.kn x1.kp,.int .i64 y1.lv,.bool y1.b,.slice y1.a y1.n y1.p,.slice y1.ka y1.kn y1.kp] 33)):=(az.trans aJ).alloc _;(refine aO 4 ?_;intro K hK);go_simp;refine hK.out _ _ (λ_=>hHeld.ext bg) ?_;clear hK K;(try simp only[Act.put,aB,aC,aD]);((refine aO 5 ?_;intro K hK);go_simp;(refine(qpZ _ 4 _ 2 _ _ (HM.out.ext bg) qK (by rw[Yi];exact hL)).mono ?_);rintro e_ wz ⟨u,rfl,hu,bB⟩;go_wp2_with (fail);(try clear ag);(have ag:=hHeld.ext (bg.trans bB));(refine hK.out _ _ (λ_=>ag) ?_);clear hK K;(try simp only[Act.put,aB,aC,aD]))
 rw[Yi]at hu;((refine aO 6 ?_;intro K hK);go_simp;(refine(Je _ 4 u _ _ (HM.out.ext (bg.trans bB)) hu).mono ?_);rintro e_ wz ⟨v,rfl,hv,bn⟩;go_wp2_with (fail);(try clear ag);(have ag:=hHeld.ext ((bg.trans bB).trans bn));(refine hK.out _ _ (λ_=>ag) ?_);clear hK K;(try simp only[Act.put,aB,aC,aD]));obtain⟨⟨q0,q1,q2,q3⟩,⟨f0,f1,f2,f3⟩,⟨r0,r1,r2,r3⟩,HF⟩:=iF (M:=M) (w:=w) (HB.out.ext ((bg.trans bB).trans bn)) (Mx.at (by omega)) (by omega) (HE.out.trans ((bg.trans bB).trans bn)) hv Mx.sub;((refine aO 7 ?_;intro K hK);go_simp;(refine hK.out _ _ (λh=>absurd rfl h) ?_);clear hK K;refine dX ?_);clear az aJ bg bB bn gY jh hu hv hHeld qK jD;go_wp2;exact bu (v:=.agg (ak v)) (by simp[results,Tryz.results54,go_sem,r0,r1,r2,r3]) rfl HF.out
theorem aN.node{M:Nat->Prop}{w:World}{L:Nat}{x:PE}{l:List Tm}(h:aN M w L x l)(hl:x.lv≠0):∃(D b off:Nat)(P:Nat->List Tm),x.lv=(D:Int)+1/\D+1<=4/\D+1<=L/\x.b=false/\x.n=0/\x.ka=some ⟨b,off,none⟩/\2<=x.kn/\x.kn<=1099511627776/\x.kn<=x.kp/\x.kp<=maxLen/\b<w.heap.size/\¬M b/\(∀i,i<x.kn->eH D (P i))/\¬af (P (x.kn-1)) []/\af (aQ (D+1) x.kn P) l/\(aK (aQ (D+1) x.kn P)<=aK l)/\∀i,i<x.kn->∃y,jK w b (off+i*4) y/\aN M w D y (P i)/\0<=y.lv/\y.lv<=D:=by
 unfold aN at h;obtain⟨D,AY,l7,vG,a',p',b,off,n,cap,P,fF,fw,oI,mg,gH,mi,iB,hb,qC,dP,dB,fQ,fJ,gQ⟩:=h.IY hl;simp only[Value.bool.injEq,Value.slice.injEq]at fF fw oI;obtain⟨h1,h2,h3⟩:=oI;refine⟨D,b,off,P,AY,l7,vG,fF,fw.2.1,h1,by omega,by omega,by omega,by omega,hb,qC,λi hi=>dB i (by omega),by rw[h2];exact fQ,by rw[h2];exact fJ,by rw[h2];exact gQ,λi hi=>?_⟩;obtain⟨e0,e1,e2,e3,z0,z1,z2,z3,hc⟩:=dP i (by omega);obtain⟨y,rfl,rfl,rfl,rfl,hy,h5,h6,_⟩:=hc.pe;exact⟨y,⟨z0,z1,z2,z3⟩,hy,h5,h6⟩
theorem aN.mq{M:Nat->Prop}{w:World}{L:Nat}{x:PE}{l:List Tm}(h:aN M w L x l):0<=x.lv/\x.lv<=L/\x.lv<=4:=by
 obtain⟨y,e0,_,_,_,_,h1,h2,h3⟩:=CR.pe h;simp only[Value.int.injEq,true_and]at e0;rw[e0];exact⟨h1,h2,h3⟩
theorem aN.val{M:Nat->Prop}{w:World}{L:Nat}{x:PE}{l:List Tm}(h:aN M w L x l):∃z,dQ M w (.bool x.b) (.slice x.a x.n x.p) z/\(x.lv≠0->z=0)/\(x.lv=0->af [(z,Mo.zero)] l/\x.kn=0):=by
 obtain⟨t,h1,h2,h3,h4⟩:=h
 have e:x.lv=t.1:=by have:=h1.1;simpa using this
 refine⟨t.2.1.val,h1.2.2.1.fB,λhl=>?_,λhl=>⟨?_,?_⟩⟩
 ·obtain⟨_,g2,g3,_⟩:=wJ h2 (by omega);unfold iY.val dw;rw[g2,g3];rfl
 ·rw[vV (by omega)]at h4;exact h4
 ·obtain⟨g1,_⟩:=GR h2 (by omega);obtain⟨_,_,_,ka,kp,hk⟩:=h1.form;simp only[Value.slice.injEq]at hk;omega
end Go.Proofs.YtmcfpnmoklnhoaaGreat
