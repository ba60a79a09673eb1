/- Mh -/
import Derived.Test.YtaafefeafonhdaaGreatMg
import Derived.ProofKit
import Derived.OpenShut
import Derived.Deep.Fields
import Derived.Deep.Strs
set_option linter.unusedVariables false
set_option maxRecDepth 100000
set_option maxHeartbeats 400000000
set_option linter.unusedSimpArgs false
namespace Go.Proofs.YtaafefeafonhdaaGreat
open Go.RowKit
def PI(M:Nat->Prop)(w:World)(x:PE)(l:List Tm):Prop:=∃d,∃t:RT d,RR M w d t (.int .i64 x.lv) (.bool x.b) (.slice x.a x.n x.p) (.slice x.ka x.kn x.kp)/\(fA d t=true\/TB d t)/\af (terms d t) l
section
variable{M M':Nat->Prop}{w w':World}{x:PE}{l r:List Tm}
theorem PI.ext(h:PI M w x l)(he:Ext w w'):PI M w' x l:=by
 obtain⟨d,t,h1,h2⟩:=h;exact⟨d,t,RR.ext h1 he,h2⟩
theorem PI.more(h:PI M w x l)(hm:∀g,M' g->M g\/w.heap.size<=g):PI M' w x l:=by
 obtain⟨d,t,h1,h2⟩:=h;exact⟨d,t,RR.more hm h1,h2⟩
theorem aG.pi{L:Nat}(h:aG M w L x l):PI M w x l:=by
 obtain⟨t,h1,h2,h3,h4⟩:=h;exact⟨_,t,h1,.inl h2,h4⟩
end
theorem RR.pe{M:Nat->Prop}{w:World}{d:Nat}{t:RT d}{c0 c1 c2 c3:Value}(h:RR M w d t c0 c1 c2 c3):∃x:PE,c0=.int .i64 x.lv/\c1=.bool x.b/\c2=.slice x.a x.n x.p/\c3=.slice x.ka x.kn x.kp:=by
 cases d with
 |zero=>exact h.elim
 |succ d=>
  obtain⟨rfl,rfl,⟨a,p,rfl⟩,ka,kp,rfl⟩:=h.form;exact⟨⟨t.1,t.2.1.neg,a,t.2.1.n,p,ka,t.2.2.1,kp⟩,rfl,rfl,rfl,rfl⟩
def di(M:Nat->Prop)(w:World)(L:Nat)(l:List Tm)(e:Ending)(w':World):Prop:=∃y:PE,e=.returned (.agg (ag y))/\aG M w' L y l/\Ext w w'
theorem vE.x{M:Nat->Prop}{w w':World}{L:Nat}{l:List Tm}{e:Ending}(h:vE M w L l e w'):di M w L l e w':=by
 obtain⟨c0,c1,c2,c3,rfl,h2,h3⟩:=h;obtain⟨y,rfl,rfl,rfl,rfl,hy,_⟩:=h2.pe;exact⟨y,rfl,hy,h3⟩
abbrev zA:Array Value:= #[.int .i64 0,.bool false,.slice none 0 0,.slice none 0 0]
theorem gI{M M':Nat->Prop}{w W:World}{g:Nat}{L:Nat}{l:List Tm}{y:PE}(hB:au W g 42 4 (arr zA))(hg:M' g)(hw:w.heap.size<=g)(he:Ext w W)(hc:aG M' W L y l)(hm:∀g,M g->M' g):
 (W.cell? ⟨g,0,none⟩=some (.int .i64 0)/\W.cell? ⟨g,1,none⟩=some (.bool false)/\W.cell? ⟨g,2,none⟩=some (.slice none 0 0)/\W.cell? ⟨g,3,none⟩=some (.slice none 0 0))/\
 (W.frozen? ⟨g,0,none⟩=false/\W.frozen? ⟨g,1,none⟩=false/\W.frozen? ⟨g,2,none⟩=false/\W.frozen? ⟨g,3,none⟩=false)/\
 (((((W.setCell ⟨g,0,none⟩ (.int .i64 y.lv)).setCell ⟨g,1,none⟩ (.bool y.b)).setCell ⟨g,2,none⟩ (.slice y.a y.n y.p)).setCell ⟨g,3,none⟩ (.slice y.ka y.kn y.kp)).cell? ⟨g,0,none⟩=some (.int .i64 y.lv)/\((((W.setCell ⟨g,0,none⟩ (.int .i64 y.lv)).setCell ⟨g,1,none⟩ (.bool y.b)).setCell ⟨g,2,none⟩ (.slice y.a y.n y.p)).setCell ⟨g,3,none⟩ (.slice y.ka y.kn y.kp)).cell? ⟨g,1,none⟩=some (.bool y.b)/\
  ((((W.setCell ⟨g,0,none⟩ (.int .i64 y.lv)).setCell ⟨g,1,none⟩ (.bool y.b)).setCell ⟨g,2,none⟩ (.slice y.a y.n y.p)).setCell ⟨g,3,none⟩ (.slice y.ka y.kn y.kp)).cell? ⟨g,2,none⟩=some (.slice y.a y.n y.p)/\((((W.setCell ⟨g,0,none⟩ (.int .i64 y.lv)).setCell ⟨g,1,none⟩ (.bool y.b)).setCell ⟨g,2,none⟩ (.slice y.a y.n y.p)).setCell ⟨g,3,none⟩ (.slice y.ka y.kn y.kp)).cell? ⟨g,3,none⟩=some (.slice y.ka y.kn y.kp))/\
 Hid (di M w L l (.returned (.agg (ag y))) ((((W.setCell ⟨g,0,none⟩ (.int .i64 y.lv)).setCell ⟨g,1,none⟩ (.bool y.b)).setCell ⟨g,2,none⟩ (.slice y.a y.n y.p)).setCell ⟨g,3,none⟩ (.slice y.ka y.kn y.kp))):=by
 obtain⟨h1,h2,h3,h4⟩:=vw (M:=M) (w:=w) hB hg hw he hc hm;exact⟨h1,h2,h3,h4.out.x⟩
def P4(w:World)(b:Nat)(x:PE):Prop:=w.cell? ⟨b,0,none⟩=some (.int .i64 x.lv)/\w.cell? ⟨b,1,none⟩=some (.bool x.b)/\w.cell? ⟨b,2,none⟩=some (.slice x.a x.n x.p)/\w.cell? ⟨b,3,none⟩=some (.slice x.ka x.kn x.kp)
theorem P4.ext{w w':World}{b:Nat}{x:PE}(h:P4 w b x)(he:Ext w w'):P4 w' b x:=by
 have hb:=dM _ _ h.1;unfold P4;rw[he.cell hb,he.cell hb,he.cell hb,he.cell hb];exact h
theorem au.p4{w:World}{b:Nat}{t:TypeId}{x:PE}(h:au w b t 4 (arr (ag x))):P4 w b x:=⟨h.cell (i:=0) (by omega),h.cell (i:=1) (by omega),h.cell (i:=2) (by omega),h.cell (i:=3) (by omega)⟩
theorem MZ{M:Nat->Prop}{w:World}(hM:Mb M w)(x:PE):Ext w ((w.alloc (.cells (ag x) 42)).alloc (.cells zA 42))/\P4 ((w.alloc (.cells (ag x) 42)).alloc (.cells zA 42)) w.heap.size x/\
 au ((w.alloc (.cells (ag x) 42)).alloc (.cells zA 42)) (w.heap.size+1) 42 4 (arr zA)/\Mb (Mx M w.heap.size (w.heap.size+2)) ((w.alloc (.cells (ag x) 42)).alloc (.cells zA 42)):=by
 have h1:=au.aO (w.alloc (.cells (ag x) 42)) zA 42 4 rfl;simp only[World.size_alloc]at h1;exact⟨((ai w).alloc _).alloc _,((au.aO w (ag x) 42 4 rfl).alloc _).p4,h1,Mx.mb hM (by simp;omega) (by simp)⟩
theorem yI{M:Nat->Prop}{w:World}(hM:Mb M w)(x y:PE):Ext w (((w.alloc (.cells (ag x) 42)).alloc (.cells (ag y) 42)).alloc (.cells zA 42))/\P4 (((w.alloc (.cells (ag x) 42)).alloc (.cells (ag y) 42)).alloc (.cells zA 42)) w.heap.size x/\
 P4 (((w.alloc (.cells (ag x) 42)).alloc (.cells (ag y) 42)).alloc (.cells zA 42)) (w.heap.size+1) y/\
 au (((w.alloc (.cells (ag x) 42)).alloc (.cells (ag y) 42)).alloc (.cells zA 42)) (w.heap.size+2) 42 4 (arr zA)/\Mb (Mx M w.heap.size (w.heap.size+3)) (((w.alloc (.cells (ag x) 42)).alloc (.cells (ag y) 42)).alloc (.cells zA 42)):=by
 have h1:=au.aO ((w.alloc (.cells (ag x) 42)).alloc (.cells (ag y) 42)) zA 42 4 rfl;have h2:=(au.aO (w.alloc (.cells (ag x) 42)) (ag y) 42 4 rfl).alloc (.cells zA 42);simp only[World.size_alloc]at h1 h2;exact⟨(((ai w).alloc _).alloc _).alloc _,(((au.aO w (ag x) 42 4 rfl).alloc _).alloc _).p4,h2.p4,h1,Mx.mb hM (by simp;omega) (by simp)⟩
theorem xZ(M:Nat->Prop)(x:PE)(l:List Tm)(w:World)(hM:Mb M w)(h:PI M w x l):Calls Tryz.prog 40 #[.agg (ag x)] w (di M w 4 l):=by
 obtain⟨d,t,h1,h2,h3⟩:=h;exact(qCE M d t _ _ _ _ w hM h1 h2).mono λe w' hp=>(hp.bP h3).x
theorem FD(M:Nat->Prop)(L:Nat)(x:PE)(l:List Tm)(w:World)(hM:Mb M w)(h:aG M w L x l):Calls Tryz.prog 38 #[.agg (ag x)] w (di M w L l):=
 (qCF L M l _ _ _ _ w hM h).mono λe w' hp=>hp.x
theorem Iz(M:Nat->Prop)(x:PE)(l:List Tm)(w:World)(hM:Mb M w)(h:PI M w x l):Calls Tryz.prog 50 #[.agg (ag x)] w (di M w 4 l):=by
 obtain⟨hE,⟨x0,x1,x2,x3⟩,hB,dz⟩:=MZ hM x;have h2:=(h.more (M':=Mx M w.heap.size (w.heap.size+2)) (Mx.more (aA _))).ext hE
 go_enter Tryz.func50,Tryz.ntmps50
 go_wp2_with (fail);refine(xZ _ x l _ dz h2).mono ?_;rintro e w1 ⟨y,rfl,hy,ah⟩;go_wp2_with (fail);refine(FD _ 4 y l _ (dz.ext ah) hy).mono ?_;rintro e w2 ⟨z,rfl,hz,az⟩;obtain⟨⟨q0,q1,q2,q3⟩,⟨f0,f1,f2,f3⟩,⟨r0,r1,r2,r3⟩,HF⟩:=gI (M:=M) (w:=w) ((hB.ext ah).ext az) (Mx.at (by omega)) (by omega) ((hE.trans ah).trans az) hz Mx.sub;clear hE hB dz h2 ah az hy hz h x0 x1 x2 x3;go_wp2;exact aV (v:=.agg (ag z)) (by simp[results,Tryz.results50,go_sem,r0,r1,r2,r3]) rfl HF.out
theorem Iy(M:Nat->Prop)(x:PE)(l:List Tm)(w:World)(hM:Mb M w)(h:PI M w x l):Calls Tryz.prog 51 #[.agg (ag x)] w λe w'=>∃b:Bool,e=.returned (.bool b)/\(b=true↔af l [])/\Ext w w':=by
 have hE:Ext w (w.alloc (.cells (ag x) 42)):=(ai w).alloc _;have dz:Mb M (w.alloc (.cells (ag x) 42)):=hM.ext hE
 go_enter Tryz.func51,Tryz.ntmps51
 go_wp2_with (fail);refine(xZ _ x l _ dz (h.ext hE)).mono ?_;rintro e w1 ⟨y,rfl,hy,ah⟩;have hz:=CR.SL hy;have HZ:=ae hz;clear hz;go_wp2_with (fail);refine(IA y.lv y.b y.a y.n y.p y.ka y.kn y.kp w1).mono ?_;rintro e w2 ⟨rfl,az⟩;go_wp2;go_ret;exact⟨_,rfl,HZ.out,(hE.trans ah).trans az⟩
theorem TA(M:Nat->Prop)(b:Bool)(a:Option Addr)(n p:Nat)(z:Int)(w:World)(hM:Mb M w)(h:dh M w (.bool b) (.slice a n p) z):Calls Tryz.prog 11 #[.agg #[.bool b,.slice a n p]] w (di M w 0 [(z,Mo.zero)]):=by
 have hE:Ext w ((w.alloc (.cells #[.bool b,.slice a n p] 30)).alloc (.cells zA 42)):=((ai w).alloc _).alloc _;have hB:=au.aO (w.alloc (.cells #[.bool b,.slice a n p] 30)) zA 42 4 rfl;simp only[World.size_alloc]at hB;have dz:Mb (Mx M w.heap.size (w.heap.size+2)) ((w.alloc (.cells #[.bool b,.slice a n p] 30)).alloc (.cells zA 42)):=Mx.mb hM (by simp;omega) (by simp);have h2:=(h.more (M':=Mx M w.heap.size (w.heap.size+2)) (Mx.more (aA _))).ext hE
 go_enter Tryz.func11,Tryz.ntmps11
 go_wp2_with (fail);refine(La _ _ z _ dz h2).mono ?_;rintro e w1 ⟨d0,d1,rfl,hc,ah⟩;obtain⟨b2,a2,n2,p2,rfl,rfl⟩:=hc.form;obtain⟨⟨q0,q1,q2,q3⟩,⟨f0,f1,f2,f3⟩,⟨r0,r1,r2,r3⟩,HF⟩:=gI (M:=M) (w:=w) (y:=⟨0,b2,a2,n2,p2,none,0,0⟩) (hB.ext ah) (Mx.at (by omega)) (by omega) (hE.trans ah) (CR.const hc 0) Mx.sub;clear hE hB dz h2 ah hc h;go_wp2;exact aV (v:=.agg #[.int .i64 0,.bool b2,.slice a2 n2 p2,.slice none 0 0]) (by simp[results,Tryz.results11,go_sem,r0,r1,r2,r3]) rfl HF.out
theorem qqM(M:Nat->Prop)(v:Value)(l:List Tm)(w:World)(hM:Mb M w)(h:eU M w v l)(hL:aF (aB l)<=1099511627776)(he:∀s∈l,∀k,s.2.get k<=1073741824):Calls Tryz.prog 10 #[v] w (di M w 4 (norm l)):=by
 have hE:Ext w (w.alloc (.cells zA 42)):=(ai w).alloc _;have hB:=au.aO w zA 42 4 rfl;have dz:Mb (Mx M w.heap.size (w.heap.size+1)) (w.alloc (.cells zA 42)):=Mx.mb hM (by simp) (by simp);have h2:=(h.more (M':=Mx M w.heap.size (w.heap.size+1)) (Mx.more (aA _))).ext hE;have HE:=ae he;clear he
 go_enter Tryz.func10,Tryz.ntmps10
 go_wp2_with (fail);refine(Lx _ v l _ dz h2 hL).mono ?_;rintro e w1 ⟨u,rfl,hu,ah⟩;have HU:=ae hu;clear hu;go_wp2_with (fail);refine(qjk (dz.ext ah) HU.out HE.out).mono ?_;intro e w2 hp;obtain⟨y,rfl,hy,az⟩:=hp.x;clear hp;go_wp2_with (fail);refine(FD _ 4 y (norm l) _ ((dz.ext ah).ext az) hy).mono ?_;rintro e w3 ⟨z,rfl,hz,aN⟩;obtain⟨⟨q0,q1,q2,q3⟩,⟨f0,f1,f2,f3⟩,⟨r0,r1,r2,r3⟩,HF⟩:=gI (M:=M) (w:=w) (((hB.ext ah).ext az).ext aN) (Mx.at (by omega)) (by omega) (((hE.trans ah).trans az).trans aN) hz Mx.sub;clear hE hB dz h2 ah az aN hy hz h;go_wp2;exact aV (v:=.agg (ag z)) (by simp[results,Tryz.results10,go_sem,r0,r1,r2,r3]) rfl HF.out
theorem qCC(M:Nat->Prop)(d:Nat)(t:RT d)(x:PE)(w:World)(hM:Mb M w)(h:RR M w d t (.int .i64 x.lv) (.bool x.b) (.slice x.a x.n x.p) (.slice x.ka x.kn x.kp))(hT:TB d t):Calls Tryz.prog 55 #[.agg (ag x)] w λe w'=>∃u,e=.returned u/\mq M w.heap.size w' u (norm (terms d t))/\Ext w w':=by
 have hE:Ext w (w.alloc (.cells (ag x) 42)):=(ai w).alloc _;have dz:Mb M (w.alloc (.cells (ag x) 42)):=hM.ext hE;have h2:=RR.ext h hE;have RA:=qfH d M (w.alloc (.cells (ag x) 42)).heap.size t _ _ _ _ (.slice none 0 0) 0 (λ_=>0) (λ_=>⟨false,none,0,0,Mo.zero⟩) Mo.zero _ (aA _) (RR.more (λg hg=>hg) h2) ⟨Own.nil _ _ _ _ _,λi hi=>by omega⟩ (by have:=hT.2.1;omega) (qqJ hT.1);have Zc:=ae RA;have HT:=ae hT;clear RA h h2 hT
 go_enter Tryz.func55,Tryz.ntmps55
 go_wp2_with (fail);refine Zc.out.mono ?_;rintro e w2 ⟨v',n',z',x',rfl,hR,hx,hg,_⟩
 have zk:bU n' z' x'=terms d t:=by rw[hx,IC];rfl
 have az:Ext (w.alloc (.cells (ag x) 42)) w2:=mE hg
 have oW:n'<=1099511627776:=by have:=congrArg List.length zk;rw[zJ]at this;have:=HT.out.2.1;omega
 have hV:=hR.dB (λg hg=>dz.new hg) oW;rw[zk]at hV;have HV:=ae hV;clear hx zk hR hg hV oW;go_wp2_with (fail);refine(Lx _ v' (terms d t) w2 (dz.ext az) HV.out HT.out.2.2.1).mono ?_;rintro e w3 ⟨u,rfl,hu,aN⟩;have HF:Hid (mq M w.heap.size w3 u (norm (terms d t))):=hu.base (by have:=(hE.trans az).size;omega);clear hu;go_wp2;go_ret;exact⟨u,rfl,HF.out,(hE.trans az).trans aN⟩
def jo(b:Nat)(x y:PE)(w:World):Prop:=P4 w b x/\P4 w (b+1) y
theorem jo.ext{b:Nat}{x y:PE}{w w':World}(h:jo b x y w)(he:Ext w w'):jo b x y w':=⟨h.1.ext he,h.2.ext he⟩
def MS(b:Nat)(x:PE)(c0 c1:Value)(w:World):Prop:=P4 w b x/\w.cell? ⟨b+1,0,none⟩=some c0/\w.cell? ⟨b+1,1,none⟩=some c1
theorem MS.ext{b:Nat}{x:PE}{c0 c1:Value}{w w':World}(h:MS b x c0 c1 w)(he:Ext w w'):MS b x c0 c1 w':=by
 have hb:=dM _ _ h.2.1;exact⟨h.1.ext he,by rw[he.cell hb];exact h.2.1,by rw[he.cell hb];exact h.2.2⟩
theorem Ya(M:Nat->Prop)(L:Nat)(x y:PE)(l r:List Tm)(B C:Nat)(w:World)(hM:Mb M w)(h:aG M w L x l)(k:aG M w L y r)(hL:aF (aB l)+aF (aB r)<=1099511627776)(hB:bE B l)(hC:bE C r)(mV:(B+1)*(C+1)<=1099511627776):Calls Tryz.prog 67 #[.agg (ag x),.agg (ag y)] w (di M w L (aC l r)):=
 (qCG L M l r B C _ _ _ _ _ _ _ _ w hM h k hL hB hC mV).mono λe w' hp=>hp.x
theorem qCI(M:Nat->Prop)(L:Nat)(x y:PE)(l r:List Tm)(w:World)(h:aG M w L x l)(k:aG M w L y r):Calls Tryz.prog 68 #[.agg (ag x),.agg (ag y)] w λe w'=>e=.returned (.bool (kE l r))/\Ext w w':=qCH L M l r _ _ _ _ _ _ _ _ w h k
theorem aG.up{M:Nat->Prop}{w:World}{L D:Nat}{x:PE}{l:List Tm}(h:aG M w L x l)(hl:L<=D):aG M w D x l:=CR.up h hl
theorem aG.bP{M:Nat->Prop}{w:World}{L:Nat}{x:PE}{l r:List Tm}(h:aG M w L x l)(hs:af l r):aG M w L x r:=CR.bP h hs
theorem aG.nn{M:Nat->Prop}{w:World}{L:Nat}{x:PE}{l:List Tm}(h:aG M w L x l):∀m:Mo,m.nn=false->aH l m=0:=CR.nn h
theorem QQ(c:Int):bE 0 [(c,Mo.zero)]:=by
 intro m hm k
 have:m=Mo.zero:=by
  refine gQ λh=>hm ?_;simp only[aH];rw[aj (λe=>h e.symm)];rfl
 rw[this,CO];exact Int.le_refl _
theorem qCB(M:Nat->Prop)(x y:PE)(l r:List Tm)(w:World)(hM:Mb M w)(h:PI M w x l)(k:PI M w y r):Calls Tryz.prog 25 #[.agg (ag x),.agg (ag y)] w λe w'=>∃b:Bool,e=.returned (.bool b)/\(b=true↔af l r)/\Ext w w':=by
 have hE:Ext w ((w.alloc (.cells (ag x) 42)).alloc (.cells (ag y) 42)):=((ai w).alloc _).alloc _;have b1:=au.aO (w.alloc (.cells (ag x) 42)) (ag y) 42 4 rfl;simp only[World.size_alloc]at b1;have hS:jo w.heap.size x y ((w.alloc (.cells (ag x) 42)).alloc (.cells (ag y) 42)).drew:=jo.ext ⟨((au.aO w (ag x) 42 4 rfl).alloc _).p4,b1.p4⟩ (ai _).drew;have mX:=hE.trans (ai _).drew;have HX:=ae (h.ext mX);have HY:=ae (k.ext mX);have HM:=ae (hM.ext mX);have HE:=ae mX;have HS:=ae hS;clear hE b1 hS mX h k
 go_enter Tryz.func25,Tryz.ntmps25
 go_wp2;refine fB (jo w.heap.size x y) 5 HS.out λhHeld=>?_;refine bH [0,2] ?_;(iterate 2 refine bG ?_);refine bI ?_
 (refine aI 1 λK hK=>?_);go_simp;(refine(xZ _ x l _ HM.out HX.out).mono ?_);rintro e_ wz ⟨x1,rfl,fo,ah⟩;go_wp2_with (fail);(try clear ak);(refine ny hK (hHeld.ext ah) λak=>?_);clear hK K
 (refine aI 3 λK hK=>?_);go_simp;(refine(xZ _ y r _ (HM.out.ext ah) (HY.out.ext ah)).mono ?_);rintro e_ wz ⟨y1,rfl,jX,az⟩;go_wp2_with (fail);(try clear ak);(refine ny hK (hHeld.ext (ah.trans az)) λak=>?_);clear hK K
 (refine aI 4 λK hK=>?_);go_simp;(refine(qCI _ 4 x1 y1 l r _ (fo.ext az) jX).mono ?_);rintro e_ wz ⟨rfl,aN⟩;go_wp2_with (fail);(try clear ak);(refine ny hK (hHeld.ext ((ah.trans az).trans aN)) λak=>?_);clear hK K
 (refine aI 5 λK hK=>?_);go_simp;(refine fz hK ?_);clear hK K
 have HF:Hid (kE l r=true↔af l r):=OY fo.nn jX.nn;have dK:=ae (HE.out.trans ((ah.trans az).trans aN));clear ah az aN fo jX hHeld;go_wp2;go_ret;exact⟨_,rfl,HF.out,dK.out⟩
theorem qfe(z:Int)(m:Mo):aB [(z,m)]=z.natAbs:=by simp[aB]
theorem qjj{M:Nat->Prop}{w:World}(hM:Mb M w)(x:PE)(c0 c1:Value):Ext w (((w.alloc (.cells (ag x) 42)).alloc (.cells #[c0,c1] 30)).alloc (.cells zA 42))/\MS w.heap.size x c0 c1 (((w.alloc (.cells (ag x) 42)).alloc (.cells #[c0,c1] 30)).alloc (.cells zA 42))/\
 au (((w.alloc (.cells (ag x) 42)).alloc (.cells #[c0,c1] 30)).alloc (.cells zA 42)) (w.heap.size+2) 42 4 (arr zA)/\Mb (Mx M w.heap.size (w.heap.size+3)) (((w.alloc (.cells (ag x) 42)).alloc (.cells #[c0,c1] 30)).alloc (.cells zA 42)):=by
 have h1:=au.aO ((w.alloc (.cells (ag x) 42)).alloc (.cells #[c0,c1] 30)) zA 42 4 rfl;have h2:=(au.aO (w.alloc (.cells (ag x) 42)) #[c0,c1] 30 2 rfl).alloc (.cells zA 42);simp only[World.size_alloc]at h1 h2;exact⟨(((ai w).alloc _).alloc _).alloc _,⟨(((au.aO w (ag x) 42 4 rfl).alloc _).alloc _).p4,h2.cell (i:=0) (by omega),h2.cell (i:=1) (by omega)⟩,h1,Mx.mb hM (by simp;omega) (by simp)⟩
theorem qqR(M:Nat->Prop)(L:Nat)(x:PE)(l:List Tm)(B:Nat)(b:Bool)(a:Option Addr)(n p:Nat)(z:Int)(w:World)(hM:Mb M w)(h:aG M w L x l)(k:dh M w (.bool b) (.slice a n p) z)(hL:aF (aB l)+aF z.natAbs<=1099511627776)(hB:bE B l)(mV:B+1<=1099511627776):
 Calls Tryz.prog 41 #[.agg (ag x),.agg #[.bool b,.slice a n p]] w (di M w L (aC l [(z,Mo.zero)])):=by
 obtain⟨aL,xJ,aW,bD⟩:=qjj hM x (.bool b) (.slice a n p);have HE:=ae (aL.trans (ai _).drew);have HS:=ae (xJ.ext (ai _).drew);have HB:=ae (aW.ext (ai _).drew);have HM:=ae (bD.ext (ai _).drew);have HX:=ae ((h.more (M':=Mx M w.heap.size (w.heap.size+3)) (Mx.more (aA _))).ext HE.out);have HI:=ae ((k.more (M':=Mx M w.heap.size (w.heap.size+3)) (Mx.more (aA _))).ext HE.out);have HD:=ae hB;clear aL xJ aW bD h k hB
 go_enter Tryz.func41,Tryz.ntmps41
 go_wp2;refine fB (MS w.heap.size x (.bool b) (.slice a n p)) 4 HS.out λhHeld=>?_;refine bH [0,1] ?_;(iterate 2 refine bG ?_ (hy:=by intro wS hSw;obtain⟨⟨S1,S2,S3,S4⟩,S5,S6⟩:=hSw;go_simp;try with_reducible rfl));refine bI ?_
 (refine aI 2 λK hK=>?_);go_simp;(refine(TA _ b a n p z _ HM.out HI.out).mono ?_);rintro e_ wz ⟨y,rfl,hy,ah⟩;go_wp2_with (fail);(try clear ak);(refine ny hK (hHeld.ext ah) λak=>?_);clear hK K
 (refine aI 3 λK hK=>?_);go_simp;(refine(Ya _ L x y l [(z,Mo.zero)] B 0 _ (HM.out.ext ah) (HX.out.ext ah) (hy.up (bu _)) (by rw[qfe];exact hL) HD.out (QQ z) (by omega)).mono ?_);rintro e_ wz ⟨v,rfl,hv,az⟩;go_wp2_with (fail);(try clear ak);(refine ny hK (hHeld.ext (ah.trans az)) λak=>?_);clear hK K
 obtain⟨⟨q0,q1,q2,q3⟩,⟨f0,f1,f2,f3⟩,⟨r0,r1,r2,r3⟩,HF⟩:=gI (M:=M) (w:=w) (HB.out.ext (ah.trans az)) (Mx.at (by omega)) (by omega) (HE.out.trans (ah.trans az)) hv Mx.sub
 (refine aI 4 λK hK=>?_);go_simp;(refine fz hK ?_);clear hK K
 clear ah az hy hv hHeld;go_wp2;exact aV (v:=.agg (ag v)) (by simp[results,Tryz.results41,go_sem,r0,r1,r2,r3]) rfl HF.out
theorem TC(M:Nat->Prop)(x y:PE)(l r:List Tm)(B C:Nat)(w:World)(hM:Mb M w)(h:PI M w x l)(k:PI M w y r)(hL:aF (aB l)+aF (aB r)<=1099511627776)(hB:bE B l)(hC:bE C r)(mV:(B+1)*(C+1)<=1099511627776):
 Calls Tryz.prog 24 #[.agg (ag x),.agg (ag y)] w (di M w 4 (aC l r)):=by
 obtain⟨aL,GK,pK,aW,bD⟩:=yI hM x y;have HE:=ae (aL.trans (ai _).drew);have HS:Hid (jo w.heap.size x y _):=jo.ext ⟨GK,pK⟩ (ai _).drew;have HB:=ae (aW.ext (ai _).drew);have HM:=ae (bD.ext (ai _).drew);have HX:=ae ((h.more (M':=Mx M w.heap.size (w.heap.size+3)) (Mx.more (aA _))).ext HE.out);have HY:=ae ((k.more (M':=Mx M w.heap.size (w.heap.size+3)) (Mx.more (aA _))).ext HE.out);clear aL GK pK aW bD h k;have l5:=ae hB;have Zi:=ae hC;clear hB hC
 go_enter Tryz.func24,Tryz.ntmps24
 go_wp2;refine fB (jo w.heap.size x y) 6 HS.out λhHeld=>?_;refine bH [0,2] ?_;(iterate 2 refine bG ?_);refine bI ?_
 (refine aI 1 λK hK=>?_);go_simp;(refine(xZ _ x l _ HM.out HX.out).mono ?_);rintro e_ wz ⟨x1,rfl,fo,ah⟩;go_wp2_with (fail);(try clear ak);(refine ny hK (hHeld.ext ah) λak=>?_);clear hK K
 (refine aI 3 λK hK=>?_);go_simp;(refine(xZ _ y r _ (HM.out.ext ah) (HY.out.ext ah)).mono ?_);rintro e_ wz ⟨y1,rfl,jX,az⟩;go_wp2_with (fail);(try clear ak);(refine ny hK (hHeld.ext (ah.trans az)) λak=>?_);clear hK K
 (refine aI 4 λK hK=>?_);go_simp;(refine(Ya _ 4 x1 y1 l r B C _ (HM.out.ext (ah.trans az)) (fo.ext az) jX hL l5.out Zi.out mV).mono ?_);rintro e_ wz ⟨u,rfl,hu,aN⟩;go_wp2_with (fail);(try clear ak);(refine ny hK (hHeld.ext ((ah.trans az).trans aN)) λak=>?_);clear hK K
 (refine aI 5 λK hK=>?_);go_simp;(refine(FD _ 4 u _ _ (HM.out.ext ((ah.trans az).trans aN)) hu).mono ?_);rintro e_ wz ⟨v,rfl,hv,bg⟩;go_wp2_with (fail);(try clear ak);(refine ny hK (hHeld.ext (((ah.trans az).trans aN).trans bg)) λak=>?_);clear hK K
 obtain⟨⟨q0,q1,q2,q3⟩,⟨f0,f1,f2,f3⟩,⟨r0,r1,r2,r3⟩,HF⟩:=gI (M:=M) (w:=w) (HB.out.ext (((ah.trans az).trans aN).trans bg)) (Mx.at (by omega)) (by omega) (HE.out.trans (((ah.trans az).trans aN).trans bg)) hv Mx.sub
 (refine aI 6 λK hK=>?_);go_simp;(refine fz hK ?_);clear hK K
 clear ah az aN bg fo jX hu hv hHeld;go_wp2;exact aV (v:=.agg (ag v)) (by simp[results,Tryz.results24,go_sem,r0,r1,r2,r3]) rfl HF.out
theorem qfF(M:Nat->Prop)(x:PE)(l:List Tm)(B:Nat)(b:Bool)(a:Option Addr)(n p:Nat)(z:Int)(w:World)(hM:Mb M w)(h:PI M w x l)(k:dh M w (.bool b) (.slice a n p) z)(hL:aF (aB l)+aF z.natAbs<=1099511627776)(hB:bE B l)(mV:B+1<=1099511627776):
 Calls Tryz.prog 26 #[.agg (ag x),.agg #[.bool b,.slice a n p]] w (di M w 4 (aC l [(z,Mo.zero)])):=by
 obtain⟨aL,xJ,aW,bD⟩:=qjj hM x (.bool b) (.slice a n p);have HE:=ae (aL.trans (ai _).drew);have HS:=ae (xJ.ext (ai _).drew);have HB:=ae (aW.ext (ai _).drew);have HM:=ae (bD.ext (ai _).drew);have HX:=ae ((h.more (M':=Mx M w.heap.size (w.heap.size+3)) (Mx.more (aA _))).ext HE.out);have HI:=ae ((k.more (M':=Mx M w.heap.size (w.heap.size+3)) (Mx.more (aA _))).ext HE.out);have HD:=ae hB;clear aL xJ aW bD h k hB
 go_enter Tryz.func26,Tryz.ntmps26
 go_wp2;refine fB (MS w.heap.size x (.bool b) (.slice a n p)) 5 HS.out λhHeld=>?_;refine bH [0,2] ?_;(iterate 2 refine bG ?_ (hy:=by intro wS hSw;obtain⟨⟨S1,S2,S3,S4⟩,S5,S6⟩:=hSw;go_simp;try with_reducible rfl));refine bI ?_
 (refine aI 1 λK hK=>?_);go_simp;(refine(xZ _ x l _ HM.out HX.out).mono ?_);rintro e_ wz ⟨x1,rfl,fo,ah⟩;go_wp2_with (fail);(try clear ak);(refine ny hK (hHeld.ext ah) λak=>?_);clear hK K
 (refine aI 3 λK hK=>?_);go_simp;(refine(qqR _ 4 x1 l B b a n p z _ (HM.out.ext ah) fo (HI.out.ext ah) hL HD.out mV).mono ?_);rintro e_ wz ⟨u,rfl,hu,az⟩;go_wp2_with (fail);(try clear ak);(refine ny hK (hHeld.ext (ah.trans az)) λak=>?_);clear hK K
 (refine aI 4 λK hK=>?_);go_simp;(refine(FD _ 4 u _ _ (HM.out.ext (ah.trans az)) hu).mono ?_);rintro e_ wz ⟨v,rfl,hv,aN⟩;go_wp2_with (fail);(try clear ak);(refine ny hK (hHeld.ext ((ah.trans az).trans aN)) λak=>?_);clear hK K
 obtain⟨⟨q0,q1,q2,q3⟩,⟨f0,f1,f2,f3⟩,⟨r0,r1,r2,r3⟩,HF⟩:=gI (M:=M) (w:=w) (HB.out.ext ((ah.trans az).trans aN)) (Mx.at (by omega)) (by omega) (HE.out.trans ((ah.trans az).trans aN)) hv Mx.sub
 (refine aI 5 λK hK=>?_);go_simp;(refine fz hK ?_);clear hK K
 clear ah az aN fo hu hv hHeld;go_wp2;exact aV (v:=.agg (ag v)) (by simp[results,Tryz.results26,go_sem,r0,r1,r2,r3]) rfl HF.out
theorem qeV{M:Nat->Prop}{w:World}{x y:PE}{L:Nat}{l r:List Tm}(hM:Mb M w)(hx:aG M w L x l)(hy:aG M w L y r):dP M (w.alloc (.cells #[.int .i64 x.lv,.bool x.b,.slice x.a x.n x.p,.slice x.ka x.kn x.kp,.int .i64 y.lv,.bool y.b,.slice y.a y.n y.p,.slice y.ka y.kn y.kp] 42)) L (.slice (some ⟨w.heap.size,0,none⟩) 2 2) 2 (λi=>if i=0 then l else r):=by
 have hB:=au.aO w #[.int .i64 x.lv,.bool x.b,.slice x.a x.n x.p,.slice x.ka x.kn x.kp,.int .i64 y.lv,.bool y.b,.slice y.a y.n y.p,.slice y.ka y.kn y.kp] 42 8 rfl;have hE:Ext w (w.alloc (.cells #[.int .i64 x.lv,.bool x.b,.slice x.a x.n x.p,.slice x.ka x.kn x.kp,.int .i64 y.lv,.bool y.b,.slice y.a y.n y.p,.slice y.ka y.kn y.kp] 42)):=(ai w).alloc _;refine⟨by omega,.inr ⟨w.heap.size,0,2,rfl,aA _,by unfold maxLen;omega,⟨hB.lt,hM.new (aA _)⟩,λi hi=>?_⟩⟩
 have:i=0\/i=1:=by omega
 rcases this with rfl|rfl
 ·exact⟨_,_,_,_,hB.cell (i:=0) (by omega),hB.cell (i:=1) (by omega),hB.cell (i:=2) (by omega),hB.cell (i:=3) (by omega),hx.ext hE⟩
 ·exact⟨_,_,_,_,hB.cell (i:=4) (by omega),hB.cell (i:=5) (by omega),hB.cell (i:=6) (by omega),hB.cell (i:=7) (by omega),hy.ext hE⟩
theorem X5(l r:List Tm):bF 2 (λi=>if i=0 then l else r)=l++r:=by
 rw[kL,kL,qqo];rfl
theorem qqO(M:Nat->Prop)(L:Nat)(v:Value)(N:Nat)(P:Nat->List Tm)(w:World)(hM:Mb M w)(h:dP M w L v N P)(hL:aF (aB (bF N P))<=1099511627776):Calls Tryz.prog 39 #[v] w (di M w L (bF N P)):=(qqN L M v N P w hM h hL).mono λe w' hp=>hp.x
theorem qqK(M:Nat->Prop)(x y:PE)(l r:List Tm)(w:World)(hM:Mb M w)(h:PI M w x l)(k:PI M w y r)(hL:aF (aB (l++r))<=1099511627776):
 Calls Tryz.prog 22 #[.agg (ag x),.agg (ag y)] w (di M w 4 (l++r)):=by
 obtain⟨aL,GK,pK,aW,bD⟩:=yI hM x y;have HE:=ae (aL.trans (ai _).drew);have HS:Hid (jo w.heap.size x y _):=jo.ext ⟨GK,pK⟩ (ai _).drew;have HB:=ae (aW.ext (ai _).drew);have HM:=ae (bD.ext (ai _).drew);have HX:=ae ((h.more (M':=Mx M w.heap.size (w.heap.size+3)) (Mx.more (aA _))).ext HE.out);have HY:=ae ((k.more (M':=Mx M w.heap.size (w.heap.size+3)) (Mx.more (aA _))).ext HE.out);clear aL GK pK aW bD h k
 go_enter Tryz.func22,Tryz.ntmps22
 go_wp2;refine fB (jo w.heap.size x y) 7 HS.out λhHeld=>?_;refine bH [0,2] ?_;(iterate 2 refine bG ?_);refine bI ?_
 (refine aI 1 λK hK=>?_);go_simp;(refine(xZ _ x l _ HM.out HX.out).mono ?_);rintro e_ wz ⟨x1,rfl,fo,ah⟩;go_wp2_with (fail);(try clear ak);(refine ny hK (hHeld.ext ah) λak=>?_);clear hK K
 (refine aI 3 λK hK=>?_);go_simp;(refine(xZ _ y r _ (HM.out.ext ah) (HY.out.ext ah)).mono ?_);rintro e_ wz ⟨y1,rfl,jX,az⟩;go_wp2_with (fail);(try clear ak);(refine ny hK (hHeld.ext (ah.trans az)) λak=>?_);clear hK K
 rename_i wz;have jr:=HM.out.ext (ah.trans az);have jA:=qeV jr (fo.ext az) jX;have aN:Ext _ (wz.alloc (.cells #[.int .i64 x1.lv,.bool x1.b,.slice x1.a x1.n x1.p,.slice x1.ka x1.kn x1.kp,.int .i64 y1.lv,.bool y1.b,.slice y1.a y1.n y1.p,.slice y1.ka y1.kn y1.kp] 42)):=(ah.trans az).alloc _;refine aI 4 λK hK=>?_;go_simp;refine nx hK (hHeld.ext aN) ?_;clear hK K
 (refine aI 5 λK hK=>?_);go_simp;(refine(qqO _ 4 _ 2 _ _ (HM.out.ext aN) jA (by rw[X5];exact hL)).mono ?_);rintro e_ wz ⟨u,rfl,hu,bg⟩;go_wp2_with (fail);(try clear ak);(refine ny hK (hHeld.ext (aN.trans bg)) λak=>?_);clear hK K
 rw[X5]at hu
 (refine aI 6 λK hK=>?_);go_simp;(refine(FD _ 4 u _ _ (HM.out.ext (aN.trans bg)) hu).mono ?_);rintro e_ wz ⟨v,rfl,hv,aU⟩;go_wp2_with (fail);(try clear ak);(refine ny hK (hHeld.ext ((aN.trans bg).trans aU)) λak=>?_);clear hK K
 obtain⟨⟨q0,q1,q2,q3⟩,⟨f0,f1,f2,f3⟩,⟨r0,r1,r2,r3⟩,HF⟩:=gI (M:=M) (w:=w) (HB.out.ext ((aN.trans bg).trans aU)) (Mx.at (by omega)) (by omega) (HE.out.trans ((aN.trans bg).trans aU)) hv Mx.sub
 (refine aI 7 λK hK=>?_);go_simp;(refine fz hK ?_);clear hK K
 clear ah az aN bg aU fo jX hu hv hHeld jA jr;go_wp2;exact aV (v:=.agg (ag v)) (by simp[results,Tryz.results22,go_sem,r0,r1,r2,r3]) rfl HF.out
theorem aG.node{M:Nat->Prop}{w:World}{L:Nat}{x:PE}{l:List Tm}(h:aG M w L x l)(hl:x.lv≠0):∃(D b off:Nat)(P:Nat->List Tm),x.lv=(D:Int)+1/\D+1<=4/\D+1<=L/\x.b=false/\x.n=0/\x.ka=some ⟨b,off,none⟩/\2<=x.kn/\x.kn<=1099511627776/\x.kn<=x.kp/\x.kp<=maxLen/\b<w.heap.size/\¬M b/\(∀i,i<x.kn->dV D (P i))/\¬af (P (x.kn-1)) []/\af (aM (D+1) x.kn P) l/\(aB (aM (D+1) x.kn P)<=aB l)/\∀i,i<x.kn->∃y,eF w b (off+i*4) y/\aG M w D y (P i)/\0<=y.lv/\y.lv<=D:=by
 unfold aG at h;obtain⟨D,yP,nT,Aj,a',p',b,off,n,cap,P,fw,eX,kT,mI,dY,jG,eu,hb,nV,dw,bZ,fO,eB,jB⟩:=h.Io hl;simp only[Value.bool.injEq,Value.slice.injEq]at fw eX kT;obtain⟨h1,h2,h3⟩:=kT;refine⟨D,b,off,P,yP,nT,Aj,fw,eX.2.1,h1,by omega,by omega,by omega,by omega,hb,nV,λi hi=>bZ i (by omega),by rw[h2];exact fO,by rw[h2];exact eB,by rw[h2];exact jB,λi hi=>?_⟩;obtain⟨e0,e1,e2,e3,z0,z1,z2,z3,hc⟩:=dw i (by omega);obtain⟨y,rfl,rfl,rfl,rfl,hy,h5,h6,_⟩:=hc.pe;exact⟨y,⟨z0,z1,z2,z3⟩,hy,h5,h6⟩
theorem aG.jY{M:Nat->Prop}{w:World}{L:Nat}{x:PE}{l:List Tm}(h:aG M w L x l):0<=x.lv/\x.lv<=L/\x.lv<=4:=by
 obtain⟨y,e0,_,_,_,_,h1,h2,h3⟩:=CR.pe h;simp only[Value.int.injEq,true_and]at e0;rw[e0];exact⟨h1,h2,h3⟩
theorem aG.val{M:Nat->Prop}{w:World}{L:Nat}{x:PE}{l:List Tm}(h:aG M w L x l):∃z,dh M w (.bool x.b) (.slice x.a x.n x.p) z/\(x.lv≠0->z=0)/\(x.lv=0->af [(z,Mo.zero)] l/\x.kn=0):=by
 obtain⟨t,h1,h2,h3,h4⟩:=h
 have e:x.lv=t.1:=by have:=h1.1;simpa using this
 refine⟨t.2.1.val,h1.2.2.1.dB,λhl=>?_,λhl=>⟨?_,?_⟩⟩
 ·obtain⟨_,g2,g3,_⟩:=uN h2 (by omega);unfold iF.val bO;rw[g2,g3];rfl
 ·rw[rM (by omega)]at h4;exact h4
 ·obtain⟨g1,_⟩:=Gn h2 (by omega);obtain⟨_,_,_,ka,kp,hk⟩:=h1.form;simp only[Value.slice.injEq]at hk;omega
def YO(L:Nat):Prop:=∀(M:Nat->Prop)(l r:List Tm)(x y:PE)(w:World),aG M w L x l->aG M w L y r->Calls Tryz.prog 17 #[.agg (ag x),.agg (ag y)] w λe w'=>e=.returned (.bool (kE l r))/\Ext w w'
theorem qvO(L:Nat)(ih:∀D,D<L->YO D):YO L:=by
 intro M l r x y w h k;have vM:Hid (kE l r=true↔af l r):=OY h.nn k.nn;have Mm:Hid (af l r->x.lv=y.lv/\x.kn=y.kn):=λhs=>CR.uniq h k hs;have aL:Ext w ((w.alloc (.cells (ag x) 42)).alloc (.cells (ag y) 42)):=((ai w).alloc _).alloc _
 by_cases iH:¬x.lv=y.lv
 ·have hd:(x.lv !=y.lv)=true:=by simpa using iH
  have HR:Hid (kE l r=false):=by
   cases hb:kE l r
   ·rfl
   ·exact absurd (Mm.out (vM.out.1 hb)).1 iH
  clear h k iH
  go_enter Tryz.func17,Tryz.ntmps17
  go_wp2;go_ret;exact⟨by rw[HR.out];rfl,aL⟩
 have WH:x.lv=y.lv:=Decidable.not_not.1 iH
 have hd:(x.lv !=y.lv)=false:=by simpa using WH
 by_cases hn:¬x.kn=y.kn
 ·have og:((x.kn:Int)!=(y.kn:Int))=true:=by simp;omega
  have HR:Hid (kE l r=false):=by
   cases hb:kE l r
   ·rfl
   ·exact absurd (Mm.out (vM.out.1 hb)).2 hn
  clear h k hn iH WH
  go_enter Tryz.func17,Tryz.ntmps17
  go_wp2;go_ret;exact⟨by rw[HR.out];rfl,aL⟩
 have oW:x.kn=y.kn:=Decidable.not_not.1 hn
 have og:((x.kn:Int)!=(y.kn:Int))=false:=by simp;omega
 clear iH hn Mm;obtain⟨zx,hvx,xR,NT⟩:=h.val;obtain⟨zy,hvy,xS,qF⟩:=k.val;have aR:=qeQ _ _ _ _ zx zy _ (hvx.ext aL) (hvy.ext aL);have qQ:=ae ((au.aO w (ag x) 42 4 rfl).alloc (.cells (ag y) 42));have b1:=au.aO (w.alloc (.cells (ag x) 42)) (ag y) 42 4 rfl;simp only[World.size_alloc]at b1;have T9:=ae b1;have dC:=ae aL;clear b1
 by_cases Bi:¬zx=zy
 ·have HR:Hid (kE l r=false):=by
   cases hb:kE l r
   ·rfl
   ·exfalso;have hs:=vM.out.1 hb
    by_cases hl:x.lv=0
    ·have:=((NT hl).1.trans (hs.trans (qF (by omega)).1.symm)) Mo.zero;exact Bi (by simpa[aH]using this)
    ·exact Bi ((xR hl).trans (xS (by omega)).symm)
  rw[decide_eq_false Bi]at aR;have aJ:=ae aR;clear aR h k hvx hvy xR xS NT qF Bi oW WH aL
  go_enter Tryz.func17,Tryz.ntmps17
  go_wp2_with (fail);refine(aJ.out).mono ?_;rintro e w1 ⟨rfl,he⟩;go_wp2;go_ret;exact⟨by rw[HR.out];rfl,dC.out.trans he⟩
 have Dz:zx=zy:=Decidable.not_not.1 Bi;rw[decide_eq_true Dz]at aR;have aJ:=ae aR
 have HPK:Hid (∃(P Q:Nat->List Tm),(∀i,i<x.kn->∃b off b' off' u t,x.ka=some ⟨b,off,none⟩/\y.ka=some ⟨b',off',none⟩/\x.kn<=x.kp/\x.kp<=maxLen/\y.kn<=y.kp/\y.kp<=maxLen/\b<w.heap.size/\b'<w.heap.size/\eF w b (off+i*4) u/\eF w b' (off'+i*4) t/\
  (∀W,Ext w W->Calls Tryz.prog 17 #[.agg (ag u),.agg (ag t)] W λe w'=>e=.returned (.bool (kE (P i) (Q i)))/\Ext W w')/\(kE (P i) (Q i)=true↔af (P i) (Q i)))/\((∀i,i<x.kn->af (P i) (Q i))->af l r)/\(af l r->∀i,i<x.kn->af (P i) (Q i))):=by
  by_cases hl:x.lv=0
  ·obtain⟨h1,h2⟩:=NT hl;obtain⟨h3,h4⟩:=qF (by omega);refine⟨λ_=>[],λ_=>[],λi hi=>by omega,λ_=>?_,λ_ i hi=>by omega⟩;rw[Dz]at h1;exact h1.symm.trans h3
  ·obtain⟨D,b,off,P,yP,nT,Aj,iZ,iN,jN,mI,dY,jG,eu,hb,nV,bZ,fO,eB,jB,dw⟩:=h.node hl;obtain⟨D',b',off',Q,kDe,kD4,kDL,kb0,kn0,kka,kC,knL,Xw,Xu,kb,kMb,Ld,SY,DL,Xx,Lc⟩:=k.node (by omega)
   have:D'=D:=by omega
   subst this;refine⟨P,Q,λi hi=>?_,λhs=>?_,λhs=>?_⟩
   ·obtain⟨u,hu1,om,_⟩:=dw i hi;obtain⟨t,Dx,Ot,_⟩:=Lc i (by omega);exact⟨b,off,b',off',u,t,jN,kka,jG,eu,Xw,Xu,hb,kb,hu1,Dx,λW hW=>ih D' (by omega) M _ _ u t W (om.ext hW) (Ot.ext hW),OY om.nn Ot.nn⟩
   ·rw[oW]at eB hs;exact eB.symm.trans ((qO _ _ _ _ hs).trans DL)
   ·rw[oW]at eB bZ⊢;exact qfo nT bZ Ld (eB.trans (hs.trans DL.symm))
 have RS:=h.SV;clear aR h k hvx hvy xR xS NT qF Bi WH aL Dz ih og;obtain⟨lv,bb,a,n,p,ka,kn,kp⟩:=x;obtain⟨pU,MV,a',OC,p',zn,Bo,DK⟩:=y;simp only at*;subst oW
 have og:((kn:Int)!=(kn:Int))=false:=by simp
 obtain⟨P,Q,hK,Wl,qmW⟩:=HPK.out;have HK:=ae hK;have Zd:=ae Wl;have ZA:=ae qmW;clear hK Wl qmW HPK
 go_enter Tryz.func17,Tryz.ntmps17
 go_wp2_with (fail);refine(aJ.out).mono ?_;rintro e w1 ⟨rfl,he⟩;have UX:=ae he;clear he;go_wp2
 go_loopw [5] (λi wr=>∃k:Nat,k<=kn/\i=.int .i64 k/\Hid (∀i,i<k->af (P i) (Q i))/\Hid (Ext w1 wr)) (λi _=>kn-(intOf i).toNat)
 case atStart=>exact⟨0,bu _,rfl,(λi hi=>by omega),ai _⟩
 case round=>
  obtain⟨k,hk,rfl,HQ,iP⟩:=hrel;have dF:=UX.out.trans iP.out;have hbx:=qQ.out.ext dF;have vZ:=T9.out.ext dF;have y3:=hbx.cell (i:=3) (by omega);have u3:=vZ.cell (i:=3) (by omega);simp only[arr]at y3 u3;have hl1:=hbx.lt;have Ha:=vZ.lt;have bM:=ae (dC.out.trans dF);have hsz:=bM.out.size;clear hbx vZ dF
  by_cases hlt:k<kn
  ·obtain⟨b,off,b',off',u,t,rfl,rfl,fw,eX,kT,Wj,hb,hb',hu,ht,RD,WR⟩:=HK.out k hlt;obtain⟨k0,k1,k2,k3⟩:=hu.ext hb bM.out;obtain⟨t0,t1,t2,t3⟩:=ht.ext hb' bM.out
   have gD:b<wr.heap.size:=by omega
   have qmc:b'<wr.heap.size:=by omega
   have NS:=RD wr.drew (bM.out.trans (ai wr).drew);have iq:(0:Int)<=(k:Int):=jE _
   have hkk:(k:Int)<(kn:Int):=by omega
   have Qf:=ae WR;clear RD hu ht WR;cases wG:kE (P k) (Q k)
   ·rw[wG]at NS;have fP:=ae NS
    have HR:Hid (kE l r=false):=by
     cases hbs:kE l r
     ·rfl
     ·have:=Qf.out.2 (ZA.out (vM.out.1 hbs) k hlt);rw[wG]at this;cases this
    clear NS wG;go_wp2
    go_still_tail 10,(by kernel_rfl)
    change wpList _ _ _ _ _ wr.drew;go_wp2_with (fail);refine(fP.out).mono ?_;rintro e w2 ⟨rfl,he⟩;have HF:=ae (bM.out.trans (((ai wr).drew).trans he));clear he;go_wp2;go_ret;exact⟨by rw[HR.out];rfl,HF.out⟩
   ·rw[wG]at NS;have fP:=ae NS
    have nH:Hid (∀i,i<k+1->af (P i) (Q i)):=λi hi=>if h:i<k then HQ.out i h else by
     have:i=k:=by omega
     subst this;exact Qf.out.1 wG
    clear NS wG;go_wp2
    go_still_tail 10,(by kernel_rfl)
    change wpList _ _ _ _ _ wr.drew;go_wp2_with (fail);refine(fP.out).mono ?_;rintro e w2 ⟨rfl,he⟩;have HF:=ae (iP.out.trans (((ai wr).drew).trans he));clear he;go_wp2
    go_roundw
    case rel=>exact⟨k+1,by omega,by go_num,nH,HF⟩
    case measure=>simp[intOf];omega
  ·have hkn:k=kn:=by omega
   subst hkn;have HR:Hid (kE l r=true):=vM.out.2 (Zd.out HQ.out);go_wp2;go_ret;exact⟨by rw[HR.out];rfl,bM.out⟩
theorem qCq(L:Nat):YO L:=by
 induction L using Nat.strongRecOn with
 |_ L ih=>exact qvO L λD hD=>ih D hD
def jJ(lv:Int):List Tm:=if 1<=lv/\lv<=4 then[(1,xp lv.toNat 1)]else[]
theorem qfG(M:Nat->Prop)(lv:Int)(w:World)(hM:Mb M w):Calls Tryz.prog 20 #[.int .i64 lv] w (di M w 4 (jJ lv)):=by
 have hE:Ext w (w.alloc (.cells zA 42)):=(ai w).alloc _;have hB:=au.aO w zA 42 4 rfl;have dz:Mb (Mx M w.heap.size (w.heap.size+1)) (w.alloc (.cells zA 42)):=Mx.mb hM (by simp) (by simp);have aR:=λW=>qfJ lv W
 by_cases hl:1<=lv/\lv<=4
 ·have oh:eH lv=true:=by unfold eH;simp[hl]
  rw[oh]at aR;have aJ:=ae aR
  have hV:jJ lv=[(1,xp lv.toNat 1)]:=by unfold jJ;rw[av hl]
  obtain⟨D,rfl⟩:∃D:Nat,lv=(D:Int)+1:=⟨(lv-1).toNat,by omega⟩
  have nT:D+1<=4:=by omega
  rw[show((D:Int)+1).toNat=D+1 by omega]at hV;have HV:=ae hV;clear aR oh hl hV
  go_enter Tryz.func20,Tryz.ntmps20
  go_wp2_with (fail);refine(aJ.out _).mono ?_;rintro e w1 ⟨rfl,rfl⟩;go_wp2_with (fail);refine(DD (M:=Mx M w.heap.size (w.heap.size+1)) 1 _ dz (by omega) (by omega)).mono ?_;rintro e w2 ⟨d0,d1,rfl,hc,az⟩;obtain⟨b2,a2,n2,p2,rfl,rfl⟩:=hc.form;have jA:=qeV (x:=PE.z) (y:=⟨0,b2,a2,n2,p2,none,0,0⟩) (L:=D) (dz.ext az) (CR.zero _ _ D) (CR.const hc D);have aN:Ext w2 (w2.alloc (.cells #[.int .i64 0,.bool false,.slice none 0 0,.slice none 0 0,.int .i64 0,.bool b2,.slice a2 n2 p2,.slice none 0 0] 42)):=(ai w2).alloc _
  have Dh:CR (Mx M w.heap.size (w.heap.size+1)) (w2.alloc (.cells #[.int .i64 0,.bool false,.slice none 0 0,.slice none 0 0,.int .i64 0,.bool b2,.slice a2 n2 p2,.slice none 0 0] 42)) 4 (.int .i64 ((D:Int)+1)) (.bool false) (.slice none 0 0) (.slice (some ⟨w2.heap.size,0,none⟩) 2 2) (jJ ((D:Int)+1)):=by
   refine(CR.bP (CR.node (D:=D) (P:=λi=>if i=0 then[]else[(1,Mo.zero)]) nT (by omega) (by omega) (aA _) (by unfold maxLen;omega) (by simp) ((dz.ext az).new (aA _)) (λi hi=>?_) ?_) ?_).up nT
   ·obtain⟨b,off,e,_,_,_,_,hk⟩:=dP.at jA i hi;simp only[Option.some.injEq,Addr.mk.injEq,and_true]at e;obtain⟨rfl,rfl⟩:=e;exact hk
   ·intro hs;have:=hs Mo.zero;simp[aH]at this
   ·rw[HV.out];intro m;rw[gF,gF,Fw];simp[shift,aH,Mo.qrT]
  obtain⟨⟨q0,q1,q2,q3⟩,⟨f0,f1,f2,f3⟩,⟨r0,r1,r2,r3⟩,HF⟩:=gI (M:=M) (w:=w) (y:=⟨(D:Int)+1,false,none,0,0,some ⟨w2.heap.size,0,none⟩,2,2⟩) ((hB.ext az).ext aN) (Mx.at (by omega)) (by omega) ((hE.trans az).trans aN) Dh Mx.sub;clear hE hB dz az aN jA Dh hc;go_wp2;exact aV (v:=.agg #[.int .i64 ((D:Int)+1),.bool false,.slice none 0 0,.slice (some ⟨w2.heap.size,0,none⟩) 2 2]) (by simp[results,Tryz.results20,go_sem,r0,r1,r2,r3]) rfl HF.out
 ·have oh:eH lv=false:=by unfold eH;simp only[decide_eq_false_iff_not];exact hl
  rw[oh]at aR;have aJ:=ae aR
  have HV:Hid (jJ lv=[]):=by show _=_;unfold jJ;rw[aj hl]
  clear aR oh hl
  go_enter Tryz.func20,Tryz.ntmps20
  go_wp2_with (fail);refine(aJ.out _).mono ?_;rintro e w1 ⟨rfl,rfl⟩;go_wp2;exact aV (v:=.agg zA) (by simp[results,Tryz.results20,go_sem]) rfl ⟨PE.z,rfl,by rw[HV.out];exact CR.zero _ _ _,hE⟩
theorem qBO(L n:Nat)(P:Nat->List Tm)(c:Nat)(h:∀i,i<n->(P i).length<=c):(aM L n P).length<=n*c:=by
 induction n with
 |zero=>simp[Fw]
 |succ n ih=>
  rw[gF,List.length_append,Nat.add_mul,Nat.one_mul];have h1:=ih λi hi=>h i (by omega);have h2:=h n (by omega);simp only[shift,List.length_map];omega
theorem QH(B:Nat):∀(d:Nat)(t:RT d),fA d t=true->zw d t->bE B (terms d t)->(terms d t).length<=(B+1)^(jY d t).toNat
 |0,_,_,_,_=>bu _
 |d+1,t,h,ho,hB=>by
  show _<=(B+1)^t.1.toNat
  by_cases hl:t.1=0
  ·rw[rM (by omega),hl];exact aA _
  ·obtain⟨g1,g2,g3,g4,g5,g6⟩:=uN h hl;rw[vC g1.1 g1.2]at hB⊢;obtain⟨D,hD⟩:∃D:Nat,t.1.toNat=D+1:=⟨t.1.toNat-1,by omega⟩;rw[hD]at hB⊢
   have bZ:∀i,i<t.2.2.1->dV D (terms d (t.2.2.2 i)):=λi hi=>by
    have:=uY h hl i hi
    rwa[hD,Nat.add_sub_cancel]at this
   cases d with
   |zero=>
    have:=(g5 0 (by omega)).2;simp[fA]at this
   |succ d=>
    have fO:¬af (terms (d+1) (t.2.2.2 (t.2.2.1-1))) []:=λhs=>by
     obtain⟨m,hm⟩:=xz _ _ (g5 (t.2.2.1-1) (by omega)).2 (ho.2 _ (by omega)) g6;exact hm (hs m)
    obtain⟨h1,h2⟩:=Ag (by omega) (by omega) bZ fO hB;refine aK (qBO (D+1) t.2.2.1 _ ((B+1)^D) λi hi=>?_) ?_
    ·have h3:=QH B (d+1) (t.2.2.2 i) (g5 i hi).2 (ho.2 i hi) (h2 i hi);refine aK h3 (Nat.pow_le_pow_right (by omega) ?_);have:=(g5 i hi).1;omega
    ·rw[Nat.pow_succ,Nat.mul_comm];exact Nat.mul_le_mul_left _ h1
theorem QG(B:Nat):∀(d:Nat)(t:RT d),fA d t=true->zw d t->bE B (terms d t)->∀s∈terms d t,∀k,s.2.get k<=B
 |0,_,_,_,_,s,hs,_=>by cases hs
 |d+1,t,h,ho,hB,s,hs,k=>by
  by_cases hl:t.1=0
  ·rw[rM (by omega)]at hs;simp only[List.mem_singleton]at hs;subst hs;show Mo.zero.get k<=B;rw[CO];omega
  ·obtain⟨g1,g2,g3,g4,g5,g6⟩:=uN h hl;rw[vC g1.1 g1.2]at hB hs;obtain⟨D,hD⟩:∃D:Nat,t.1.toNat=D+1:=⟨t.1.toNat-1,by omega⟩;rw[hD]at hB hs
   have bZ:∀i,i<t.2.2.1->dV D (terms d (t.2.2.2 i)):=λi hi=>by
    have:=uY h hl i hi
    rwa[hD,Nat.add_sub_cancel]at this
   cases d with
   |zero=>
    have:=(g5 0 (by omega)).2;simp[fA]at this
   |succ d=>
    have fO:¬af (terms (d+1) (t.2.2.2 (t.2.2.1-1))) []:=λhs=>by
     obtain⟨m,hm⟩:=xz _ _ (g5 (t.2.2.1-1) (by omega)).2 (ho.2 _ (by omega)) g6;exact hm (hs m)
    obtain⟨h1,h2⟩:=Ag (by omega) (by omega) bZ fO hB;obtain⟨i,hi,u,hu,rfl⟩:=Ls hs;have h3:=QG B (d+1) (t.2.2.2 i) (g5 i hi).2 (ho.2 i hi) (h2 i hi) u hu k;show(Mo.add u.2 (xp (D+1) (i:Int))).get k<=B;rw[iL,gM _ _ _ (by omega) (by omega)]
    by_cases hk:k=D+1
    ·rw[av hk,hk];have:=bZ i hi u hu (D+1) (by omega) (by omega);omega
    ·rw[aj hk];omega
theorem FH{B:Nat}{l r:List Tm}(hs:af l r)(h:bE B r):bE B l:=h.bP hs.symm
theorem aG.tb{M:Nat->Prop}{w:World}{L:Nat}{x:PE}{l:List Tm}{B:Nat}(h:aG M w L x l)(vT:L<=4)(hL:aF (aB l)<=1099511627776)(hB:bE B l)(gY:(B+1)^4<=1099511627776):∃t:RT (L+1),RR M w (L+1) t (.int .i64 x.lv) (.bool x.b) (.slice x.a x.n x.p) (.slice x.ka x.kn x.kp)/\TB (L+1) t/\af (terms (L+1) t) l:=by
 obtain⟨t,h1,h2,h3,h4⟩:=h;have iH:=Af h2;have hlen:=QH B (L+1) t h2 h1.ok (FH h4 hB);have qei:(B+1)^(Go.Proofs.YtaafefeafonhdaaGreat.jY (L+1) t).toNat<=(B+1)^4:=Nat.pow_le_pow_right (by omega) (by show t.1.toNat<=4;omega)
 have bA:B+1<=(B+1)^4:=by
  have h5:=Nat.pow_le_pow_right (show 0<B+1 by omega) (show 1<=4 by omega)
  rwa[Nat.pow_one]at h5
 have hBs:B<=1073741824:=by
  refine gQ λhc=>?_;have h6:(1073741825:Nat)^2<=(B+1)^4:=aK (Nat.pow_le_pow_left (show 1073741825<=B+1 by omega) 2) (Nat.pow_le_pow_right (by omega) (by omega));omega
 refine⟨t,h1,⟨by omega,by omega,aK (fu (JX h2 h4)) hL,λs hs k=>?_⟩,h4⟩;have:=QG B (L+1) t h2 h1.ok (FH h4 hB) s hs k;omega
theorem QR(lv:Int):bE 1 (jJ lv):=by
 unfold jJ
 split
 ·rename_i h;intro m hm k
  have:m=xp lv.toNat 1:=by
   refine gQ λhc=>hm ?_;simp only[aH];rw[aj (λe=>hc e.symm)];rfl
  rw[this,gM _ _ _ (by omega) (by omega)]
  split<;>omega
 ·intro m hm;exact absurd rfl hm
abbrev M0:Nat->Prop:=λ_=>False
theorem pV(w:World):Mb M0 w:=λ_ h=>h.elim
def qaW(g:Nat)(y:PE)(b off:Nat)(c1 c2:Value)(w:World):Prop:=P4 w g y/\w.cell? ⟨b,off+1,none⟩=some c1/\w.cell? ⟨b,off+1+1,none⟩=some c2/\w.cell? ⟨b,off+4,none⟩=some (.int .i64 1)
theorem qaW.ext{g:Nat}{y:PE}{b off:Nat}{c1 c2:Value}{w w':World}(h:qaW g y b off c1 c2 w)(he:Ext w w'):qaW g y b off c1 c2 w':=by
 have hb:=dM _ _ h.2.1;exact⟨h.1.ext he,by rw[he.cell hb];exact h.2.1,by rw[he.cell hb];exact h.2.2.1,by rw[he.cell hb];exact h.2.2.2⟩
def MF(M:Nat->Prop)(w:World)(v:Value)(n:Nat)(L C K:Nat->Int):Prop:=
 n<=1099511627776/\((n=0/\∃a c,v=.slice a 0 c)\/∃b off cap,v=.slice (some ⟨b,off,none⟩) n cap/\n<=cap/\cap<=maxLen/\(b<w.heap.size/\¬M b)/\∀i,i<n->w.cell? ⟨b,off+i*3,none⟩=some (.int .i8 (L i))/\w.cell? ⟨b,off+i*3+1,none⟩=some (.int .i16 (C i))/\w.cell? ⟨b,off+i*3+2,none⟩=some (.int .u8 (K i))/\
  (-128<=L i/\L i<=127)/\(-32768<=C i/\C i<=32767)/\(0<=K i/\K i<=255))
theorem MF.kp{M:Nat->Prop}{w w':World}{v:Value}{n:Nat}{L C K:Nat->Int}(h:MF M w v n L C K)(he:Kp M w w'):MF M w' v n L C K:=by
 obtain⟨h0,h|⟨b,off,cap,h1,h2,h3,h4,h5⟩⟩:=h
 ·exact⟨h0,.inl h⟩
 ·exact⟨h0,.inr ⟨b,off,cap,h1,h2,h3,⟨bB h4.1 he.1,h4.2⟩,λi hi=>by rw[he.cell h4.1 h4.2,he.cell h4.1 h4.2,he.cell h4.1 h4.2];exact h5 i hi⟩⟩
theorem MF.ext{M:Nat->Prop}{w w':World}{v:Value}{n:Nat}{L C K:Nat->Int}(h:MF M w v n L C K)(he:Ext w w'):MF M w' v n L C K:=h.kp (Kp.gZ he)
def pW(f:Nat->Nat):Nat->Nat
 |0=>0
 |n+1=>pW f n+f n
def jD(A:Nat):(d:Nat)->RT d->Nat
 |0,_=>1
 |d+1,t=>if t.1<=0 then aF t.2.1.val.natAbs+1 else if 4<t.1 then 1 else 1+pW (λi=>jD A d (t.2.2.2 i)+A+1) t.2.2.1
def qtR(d:Nat)(t:RT d):Prop:=(terms d t).length<=4^d/\aB (terms d t)<=4^d*32768/\∀s∈terms d t,∀k,s.2.get k<=3*(d:Int)
def Sml(d:Nat)(t:RT d):Prop:=qtR d t/\∀A,jD A d t<=9^d*(A+3)
theorem qA1(L n:Nat)(P:Nat->List Tm)(c:Nat)(h:∀i,i<n->aB (P i)<=c):aB (aM L n P)<=n*c:=by
 induction n with
 |zero=>exact bu _
 |succ n ih=>
  rw[gF,kK,zu,Nat.add_mul,Nat.one_mul];have h1:=ih λi hi=>h i (by omega);have h2:=h n (by omega);omega
def qa3(g:Nat)(L C:Int)(w:World):Prop:=w.cell? ⟨g,0,none⟩=some (.int .i8 L)/\w.cell? ⟨g,1,none⟩=some (.int .i16 C)
theorem qa3.ext{g:Nat}{L C:Int}{w w':World}(h:qa3 g L C w)(he:Ext w w'):qa3 g L C w':=by
 have hb:=dM _ _ h.1;exact⟨by rw[he.cell hb];exact h.1,by rw[he.cell hb];exact h.2⟩
def BT(M:Nat->Prop)(w:World)(x:PE)(l:List Tm):Prop:=∃t:RT 7,RR M w 7 t (.int .i64 x.lv) (.bool x.b) (.slice x.a x.n x.p) (.slice x.ka x.kn x.kp)/\Sml 7 t/\terms 7 t=l
section
variable{M M':Nat->Prop}{w w':World}{x:PE}{l:List Tm}
theorem BT.ext(h:BT M w x l)(he:Ext w w'):BT M w' x l:=by
 obtain⟨t,h1,h2⟩:=h;exact⟨t,RR.ext h1 he,h2⟩
end
section
end
section
end
theorem qvN(x y:PE)(l r:List Tm)(w:World)(h:aG M0 w 4 x l)(k:aG M0 w 4 y r)(hs:af l r):Calls Tryz.prog 17 #[.agg (ag x),.agg (ag y)] w λe w'=>e=.returned (.bool true)/\Ext w w':=by
 have h1:=qCq 4 M0 l r x y w h k
 rwa[(OY h.nn k.nn).2 hs]at h1
theorem qCV(x y:PE)(l r:List Tm)(w:World)(b:Bool)(h:PI M0 w x l)(k:PI M0 w y r)(hb:b=true↔af l r):Calls Tryz.prog 25 #[.agg (ag x),.agg (ag y)] w λe w'=>e=.returned (.bool b)/\Ext w w':=by
 refine(qCB M0 x y l r w (pV w) h k).mono ?_;rintro e w' ⟨c,rfl,hc,he⟩
 have:c=b:=by
  cases c<;>cases b<;>simp_all
 exact⟨by rw[this],he⟩
def SP4(c:Nat)(x y:PE)(g7 g8:Nat)(a b:PE)(w:World):Prop:=P4 w c x/\P4 w (c+1) y/\P4 w g7 a/\P4 w g8 b
theorem SP4.ext{c:Nat}{x y:PE}{g7 g8:Nat}{a b:PE}{w w':World}(h:SP4 c x y g7 g8 a b w)(he:Ext w w'):SP4 c x y g7 g8 a b w':=⟨h.1.ext he,h.2.1.ext he,h.2.2.1.ext he,h.2.2.2.ext he⟩
def YS(M:Nat->Prop)(base:Nat)(w:World)(g:Nat)(L:List Tm):Prop:=
 ∃(n:Nat)(z:Nat->Int)(m:Nat->Mo),qg M base w g n z m/\Ee n m/\n<=L.length/\aB (dZ n z m)<=aB L/\∀q,aH (dZ n z m) q=mK L q
theorem YS.ext{M:Nat->Prop}{base:Nat}{w w':World}{g:Nat}{L:List Tm}(h:YS M base w g L)(he:Ext w w'):YS M base w' g L:=by
 obtain⟨n,z,m,h1,h2⟩:=h;exact⟨n,z,m,h1.ext he,h2⟩
theorem eU.form{M:Nat->Prop}{w:World}{v:Value}{l:List Tm}(h:eU M w v l):∃a cap,v=.slice a l.length cap:=by
 obtain⟨n,z,m,c0,c1,⟨dY,hrow⟩,rfl,hI⟩:=h;rw[show(dZ n z m).length=n by simp[dZ]];rcases hrow with⟨⟨_,_,rfl,_⟩,rfl⟩|⟨b,off,cap,rfl,_⟩
 ·exact⟨_,_,rfl⟩
 ·exact⟨_,_,rfl⟩
theorem eU.len{M:Nat->Prop}{w:World}{v:Value}{l:List Tm}(h:eU M w v l):l.length<=1099511627776:=by
 obtain⟨n,z,m,c0,c1,⟨dY,hrow⟩,rfl,hI⟩:=h;simpa[dZ]using dY
theorem eU.at{M:Nat->Prop}{w:World}{a:Option Addr}{n cap:Nat}{l:List Tm}(h:eU M w (.slice a n cap) l){k:Nat}(hk:k<l.length):∃(b off:Nat)(c:Int)(m:Mo)(b1:Bool)(a1:Option Addr)(n1 p1:Nat),
 a=some ⟨b,off,none⟩/\l.length<=cap/\cap<=maxLen/\b<w.heap.size/\w.cell? ⟨b,off+k*6,none⟩=some (.bool b1)/\w.cell? ⟨b,off+k*6+1,none⟩=some (.slice a1 n1 p1)/\
 w.cell? ⟨b,off+k*6+2,none⟩=some (.int .i64 m.a)/\w.cell? ⟨b,off+k*6+3,none⟩=some (.int .i64 m.b)/\w.cell? ⟨b,off+k*6+4,none⟩=some (.int .i64 m.c)/\w.cell? ⟨b,off+k*6+5,none⟩=some (.int .i64 m.d)/\
 dh M w (.bool b1) (.slice a1 n1 p1) c/\l.take (k+1)=l.take k++[(c,m)]/\(c,m)∈l:=by
 obtain⟨n',z,m,c0,c1,⟨dY,hrow⟩,rfl,hI⟩:=h
 have hlen:(dZ n' z m).length=n':=by simp[dZ]
 rw[hlen]at hk⊢;rcases hrow with⟨_,h0⟩|⟨b,off,cap',hv,xL,hm,hb,Df⟩
 ·omega
 simp only[Value.slice.injEq]at hv;obtain⟨rfl,rfl,rfl⟩:=hv;obtain⟨x0,x1,x2,x3,x4,x5⟩:=Df k hk;have uR:=hI k hk;obtain⟨b1,a1,n1,p1,e0,e1⟩:=uR.form;rw[e0,e1]at uR;rw[e0]at x0;rw[e1]at x1;have pQ:(z k,m k)∈dZ n z m:=List.mem_map.2 ⟨k,List.mem_range.2 hk,rfl⟩;refine⟨b,off,z k,m k,b1,a1,n1,p1,rfl,xL,hm,hb.1,x0,x1,x2,x3,x4,x5,uR,?_,pQ⟩;rw[List.take_succ_eq_append_getElem (by rw[hlen];exact hk)];simp[dZ]
theorem qDg{c:Int}(hc:c≠0){l:List Tm}(h:Canon l):Canon (smul c l):=by
 refine⟨?_,λt ht=>?_⟩
 ·unfold smul;rw[List.pairwise_map];exact h.1
 ·unfold smul at ht;obtain⟨s,hs,rfl⟩:=List.mem_map.1 ht;have:=h.2 s hs;exact⟨by simpa using⟨hc,this.1⟩,this.2⟩
theorem qAV{c:Int}(hc:c≠0)(l:List Tm):smul c (norm l)=norm (smul c l):=by
 refine norm_eq (qDg hc (o7 l)) λm=>?_;rw[mO,Lp];unfold mK;rw[mO]
 split
 ·rfl
 ·simp
def JP(b t k:Nat)(c0 c1 d0 d1:Value)(w:World):Prop:=w.cell? ⟨b,0,none⟩=some c0/\w.cell? ⟨b,1,none⟩=some c1/\w.cell? ⟨t,k*6,none⟩=some d0/\w.cell? ⟨t,k*6+1,none⟩=some d1
theorem JP.ext{b t k:Nat}{c0 c1 d0 d1:Value}{w w':World}(h:JP b t k c0 c1 d0 d1 w)(he:Ext w w'):JP b t k c0 c1 d0 d1 w':=by
 have h1:=dM _ _ h.1;have h2:=dM _ _ h.2.2.1;unfold JP;rw[he.cell h1,he.cell h1,he.cell h2,he.cell h2];exact h
section
variable{P:Program}{ops:Array Oper}{Q:Exit->Act->World->Prop}{md:Region.Mode}{S:World->Prop}{last:Nat}
def Cl(md:Region.Mode)(ops:Array Oper)(listed:Array Bool):Prop:=∀(j:Nat)(o:Oper),ops[j]?=some o->listed.getD j false=true->∀e∈o.after,Region.binds md e=true->listed.getD e.on false=true
def Vs(md:Region.Mode)(ops:Array Oper)(listed:Array Bool):Bool:=(List.range ops.size).all λj=> !listed.getD j false||((ops[j]?).map λo=>o.after.all λe=> !Region.binds md e||listed.getD e.on false).getD true
theorem qjt{listed:Array Bool}(h:Vs md ops listed=true):Cl md ops listed:=by
 intro j o ho hl e he hb;have hj:j<ops.size:=(Array.getElem?_eq_some_iff.1 ho).1;unfold Vs at h;rw[List.all_eq_true]at h;have h1:=h j (List.mem_range.2 hj);rw[hl,ho]at h1;simp only[Bool.not_true,Bool.false_or,Option.map_some,Option.getD_some,Array.all_eq_true_iff_forall_mem]at h1;have h2:=h1 e he;rw[hb]at h2;simpa using h2
def DU(md:Region.Mode)(ops:Array Oper):Nat->Nat->Nat->Bool
 |0,_,_=>false
 |f+1,j,i=>((ops[j]?).map λo=>o.after.any λe=>Region.binds md e&&(e.on==i||DU md ops f e.on i)).getD false
theorem qfB{listed:Array Bool}(hc:Cl md ops listed)(i:Nat):∀(f j:Nat),DU md ops f j i=true->(∀o,ops[j]?=some o->∀e∈o.after,Region.binds md e=true->listed.getD e.on false=true)->listed.getD i false=true
 |0,_,h,_=>by simp[DU]at h
 |f+1,j,h,hp=>by
  unfold DU at h
  cases ho:ops[j]? with
  |none=>rw[ho]at h;simp at h
  |some o=>
   rw[ho]at h;simp only[Option.map_some,Option.getD_some,Array.any_eq_true,Bool.and_eq_true,Bool.or_eq_true,beq_iff_eq]at h;obtain⟨k,hk,hb,he⟩:=h;have h1:=hp o ho _ (Array.getElem_mem hk) hb;rcases he with he|he
   ·rw[<-he];exact h1
   ·exact qfB hc i f _ he λo' AZ e' Ky hb'=>hc _ o' AZ h1 e' Ky hb'
theorem Cl.step{listed:Array Bool}(hc:Cl md ops listed){j:Nat}(hj:j∈Region.ready md ops listed):Cl md ops (listed.setIfInBounds j true):=by
 intro k o ho hl e he hb
 by_cases KI:k=j
 ·subst KI;obtain⟨_,o',AZ,kI⟩:=mem_ready.1 hj;rw[ho]at AZ;cases AZ;exact getD_set_true (kI e he hb)
 ·rw[getD_set_ne false (Ne.symm KI)]at hl;exact getD_set_true (hc k o ho hl e he hb)
theorem qpF{i f:Nat}{listed:Array Bool}(hc:Cl md ops listed)(hw:DU md ops f last i=true)(hr:i∈Region.ready md ops listed):last∉Region.ready md ops listed:=by
 intro hl;obtain⟨_,o,ho,kI⟩:=mem_ready.1 hl
 have h1:=qfB hc i f last hw λo' AZ e he hb=>by
  rw[ho]at AZ;cases AZ;exact kI e he hb
 have h0:=(mem_ready.1 hr).1;rcases Nat.lt_or_ge i listed.size with h'|h'
 ·simp[h']at h0 h1;rw[h0]at h1;cases h1
 ·simp[Array.getElem?_eq_none h']at h1
theorem qEC{i f:Nat}{oi:Oper}{v:Value}(hi:ops[i]?=some oi)(Bb:∀(j:Nat)(o:Oper) cs b,ops[j]?=some o->o.op≠ .select cs b)
 (hQ:∀c a w,Q (.panic c) (a.put oi.dst v) w->Q (.panic c) a w) (hw:DU md ops f last i=true):
 ∀(fuel:Nat)(listed:Array Bool)(a:Act)(w:World),Cl md ops listed->
  (∀j oj,ops[j]?=some oj->j≠i->listed.getD j true=false->(∀e∈oj.after,Region.binds md e=true->e.on≠i)->oi.apart ops oj=true)->
  i∈Region.ready md ops listed->YieldsIf P ops S oi v a->S w->
  lZ P md ops Q S last fuel (listed.setIfInBounds i true) (a.put oi.dst v) w->lZ P md ops Q S last (fuel+1) listed a w:=by
 intro fuel
 induction fuel with
 |zero=>
  intro listed a w _ _ hr hy hS H;refine⟨λh=>(by rw[h]at hr;cases hr),λj hj=>?_⟩
  by_cases iR:j=i
  ·subst iR;exact hy.wpOp hi hS ⟨λ_=>hS,H⟩
  ·have:=ready_mono hj iR;rw[H.1]at this;cases this
 |succ fuel ih=>
  intro listed a w nZ AP hr hy hS H;refine⟨λh=>(by rw[h]at hr;cases hr),λj hj=>?_⟩
  by_cases iR:j=i
  ·subst iR;exact hy.wpOp hi hS ⟨λ_=>hS,H⟩
  ·have h1:=H.2 j (ready_mono hj iR);have tZ:j≠last:=λe=>qpF nZ hw hr (e ▸ hj);obtain⟨AV,oj,uX,kI⟩:=mem_ready.1 hj
   have KR:∀e∈oj.after,Region.binds md e=true->e.on≠i:=λe he hb heq=>by
    have h1:=kI e he hb;have h0:=(mem_ready.1 hr).1;rw[heq]at h1;rcases Nat.lt_or_ge i listed.size with h'|h'
    ·simp[h']at h0 h1;rw[h0]at h1;cases h1
    ·simp[Array.getElem?_eq_none h']at h1
   have h2:=wpOp_putIf uX (AP j oj uX iR AV KR) (λcs b=>Bb i oi cs b hi) (λcs b=>Bb j oj cs b uX) hQ hy h1
   have KD:∀k ok,ops[k]?=some ok->k≠i->(listed.setIfInBounds j true).getD k true=false->
    (∀e∈ok.after,Region.binds md e=true->e.on≠i)->oi.apart ops ok=true:=λk ok hk KH Bf hno=>by
    refine AP k ok hk KH ?_ hno
    by_cases lC:j=k
    ·subst lC;exact AV
    ·rw[getD_set_ne true lC]at Bf;exact Bf
   refine wpOp_mono (λa' w' h3=>⟨λ_=>h3.2.1 tZ,ih (listed.setIfInBounds j true) a' w' (nZ.step hj) KD (ready_mono hr (Ne.symm iR)) h3.1 (h3.2.1 tZ) ?_⟩) h2;rw[Array.setIfInBounds_comm _ _ iR];exact h3.2.2
theorem IL(i:Nat){oi:Oper}{v:Value}{fuel:Nat}{listed:Array Bool}{a:Act}{w:World}
 (hy:∀w,S w->(execOp a.eval oi).run P w=.ok (.value v) w) (h:lZ P md ops Q S last fuel (listed.setIfInBounds i true) (a.put oi.dst v) w)
 (hs:Region.noSelect ops=true:=by kernel_rfl) (hf:Region.free md ops listed i=true:=by kernel_rfl) (hr:(Region.ready md ops listed).contains i=true:=by kernel_rfl) (hl:DU md ops ops.size last i=true:=by kernel_rfl) (hc:Vs md ops listed=true:=by kernel_rfl) (hS:S w:=by first|exact ak|exact hHeld)
 (hi:ops[i]?=some oi:=by simp only[sO,sP,sQ];rfl) (hwd:Region.wanted oi (yielded ops a.tmps)=true:=by rfl) (hQ:∀c a w,Q (.panic c) (a.put oi.dst v) w->Q (.panic c) a w:=by exactλ_ _ _ h=>h):lZ P md ops Q S last (fuel+1) listed a w:=
 qEC hi (Region.noSelect_spec hs) hQ hl fuel listed a w (qjt hc) (Region.free_spec hi hf) (by simpa using hr) (.inl ⟨hwd,hy⟩) hS h
end
def Vh(bm bs bt:Nat)(m:Mo)(c0 c1 d0 d1:Value)(w:World):Prop:=(w.cell? ⟨bm,0,none⟩=some (.int .i64 m.a)/\w.cell? ⟨bm,1,none⟩=some (.int .i64 m.b)/\w.cell? ⟨bm,2,none⟩=some (.int .i64 m.c)/\w.cell? ⟨bm,3,none⟩=some (.int .i64 m.d))/\
 (w.cell? ⟨bs,0,none⟩=some c0/\w.cell? ⟨bs,1,none⟩=some c1)/\(w.cell? ⟨bt,0,none⟩=some d0/\w.cell? ⟨bt,1,none⟩=some d1)
theorem Vh.ext{bm bs bt:Nat}{m:Mo}{c0 c1 d0 d1:Value}{w w':World}(h:Vh bm bs bt m c0 c1 d0 d1 w)(he:Ext w w'):Vh bm bs bt m c0 c1 d0 d1 w':=by
 have h1:=dM _ _ h.1.1;have h2:=dM _ _ h.2.1.1;have h3:=dM _ _ h.2.2.1;unfold Vh;rw[he.cell h1,he.cell h1,he.cell h1,he.cell h1,he.cell h2,he.cell h2,he.cell h3,he.cell h3];exact h
theorem qqL(M:Nat->Prop)(x:PE)(l:List Tm)(B:Nat)(w:World)(hM:Mb M w)(h:PI M w x l)(hL:aF (aB l)+1<=1099511627776)(hB:bE B l)(mV:B+1<=1099511627776):
 Calls Tryz.prog 64 #[.agg (ag x)] w (di M w 4 (aC l [(-1,Mo.zero)])):=by
 obtain⟨aL,xJ,aW,bD⟩:=MZ hM x;have HE:=ae (aL.trans (ai _).drew);have HS:=ae (xJ.ext (ai _).drew);have HB:=ae (aW.ext (ai _).drew);have HM:=ae (bD.ext (ai _).drew);have HX:=ae ((h.more (M':=Mx M w.heap.size (w.heap.size+2)) (Mx.more (aA _))).ext HE.out);have HD:=ae hB
 have HL:Hid (aF (aB l)+aF ((-1:Int)).natAbs<=1099511627776):=by
  show _<=_;rw[show aF ((-1:Int)).natAbs=1 by decide];exact hL
 clear aL xJ aW bD h hB hL
 go_enter Tryz.func64,Tryz.ntmps64
 go_wp2;refine fB (λw'=>P4 w' w.heap.size x) 3 HS.out λhHeld=>?_;((refine IL 0 (v:=?_) ?_ ?_;rotate_left 1;(intro wS hSw;obtain⟨S1,S2,S3,S4⟩:=hSw;go_simp;try with_reducible rfl);(try simp only[Act.put,eO,eQ,eT])))
 (refine aI 1 λK hK=>?_);go_simp;(refine(DD (-1) _ HM.out (by omega) (by omega)).mono ?_);rintro e_ wz ⟨e0,e1,rfl,hc,ah⟩;go_wp2_with (fail);(try clear ak);(refine ny hK (hHeld.ext ah) λak=>?_);clear hK K
 obtain⟨b2,a2,n2,p2,rfl,rfl⟩:=hc.form
 (refine aI 2 λK hK=>?_);go_simp;(refine(qfF _ x l B b2 a2 n2 p2 (-1) _ (HM.out.ext ah) (HX.out.ext ah) hc.dB HL.out HD.out mV).mono ?_);rintro e_ wz ⟨v,rfl,hv,az⟩;go_wp2_with (fail);(try clear ak);(refine ny hK (hHeld.ext (ah.trans az)) λak=>?_);clear hK K
 obtain⟨⟨q0,q1,q2,q3⟩,⟨f0,f1,f2,f3⟩,⟨r0,r1,r2,r3⟩,HF⟩:=gI (M:=M) (w:=w) (HB.out.ext (ah.trans az)) (Mx.at (by omega)) (by omega) (HE.out.trans (ah.trans az)) hv Mx.sub
 (refine aI 3 λK hK=>?_);go_simp;(refine fz hK ?_);clear hK K
 clear ah az hc hv hHeld;go_wp2;exact aV (v:=.agg (ag v)) (by simp[results,Tryz.results64,go_sem,r0,r1,r2,r3]) rfl HF.out
theorem X9(M:Nat->Prop)(x y:PE)(l r:List Tm)(B:Nat)(w:World)(hM:Mb M w)(h:PI M w x l)(k:PI M w y r)(hL:aF (aB (l++aC r [(-1,Mo.zero)]))<=1099511627776)(hL2:aF (aB r)+1<=1099511627776)(hB:bE B r)(mV:B+1<=1099511627776):
 Calls Tryz.prog 9 #[.agg (ag x),.agg (ag y)] w (di M w 4 (l++aC r [(-1,Mo.zero)])):=by
 obtain⟨aL,GK,pK,aW,bD⟩:=yI hM x y;have HE:=ae (aL.trans (ai _).drew);have HS:Hid (jo w.heap.size x y _):=jo.ext ⟨GK,pK⟩ (ai _).drew;have HB:=ae (aW.ext (ai _).drew);have HM:=ae (bD.ext (ai _).drew);have HX:=ae ((h.more (M':=Mx M w.heap.size (w.heap.size+3)) (Mx.more (aA _))).ext HE.out);have HY:=ae ((k.more (M':=Mx M w.heap.size (w.heap.size+3)) (Mx.more (aA _))).ext HE.out);have HD:=ae hB
 have Em:Hid (aF (aB r)+aF ((-1:Int)).natAbs<=1099511627776):=by
  show _<=_;rw[show aF ((-1:Int)).natAbs=1 by decide];exact hL2
 clear aL GK pK aW bD h k hB hL2
 go_enter Tryz.func9,Tryz.ntmps9
 go_wp2;refine fB (jo w.heap.size x y) 9 HS.out λhHeld=>?_;((refine IL 0 (v:=?_) ?_ ?_;rotate_left 1;(intro wS hSw;obtain⟨⟨S1,S2,S3,S4⟩,S5,S6,S7,S8⟩:=hSw;go_simp;try with_reducible rfl);(try simp only[Act.put,eO,eQ,eT]));(refine IL 2 (v:=?_) ?_ ?_;rotate_left 1;(intro wS hSw;obtain⟨⟨S1,S2,S3,S4⟩,S5,S6,S7,S8⟩:=hSw;go_simp;try with_reducible rfl);(try simp only[Act.put,eO,eQ,eT])))
 (refine aI 1 λK hK=>?_);go_simp;(refine(xZ _ x l _ HM.out HX.out).mono ?_);rintro e_ wz ⟨x1,rfl,fo,ah⟩;go_wp2_with (fail);(try clear ak);(refine ny hK (hHeld.ext ah) λak=>?_);clear hK K
 (refine aI 3 λK hK=>?_);go_simp;(refine(xZ _ y r _ (HM.out.ext ah) (HY.out.ext ah)).mono ?_);rintro e_ wz ⟨y1,rfl,jX,az⟩;go_wp2_with (fail);(try clear ak);(refine ny hK (hHeld.ext (ah.trans az)) λak=>?_);clear hK K
 have E8:=ah.trans az
 (refine aI 4 λK hK=>?_);go_simp;(refine(DD (-1) _ (HM.out.ext E8) (by omega) (by omega)).mono ?_);rintro e_ wz ⟨e0,e1,rfl,hc,aN⟩;go_wp2_with (fail);(try clear ak);(refine ny hK (hHeld.ext (E8.trans aN)) λak=>?_);clear hK K
 obtain⟨b2,a2,n2,p2,rfl,rfl⟩:=hc.form;have AL:=E8.trans aN
 (refine aI 5 λK hK=>?_);go_simp;(refine(qqR _ 4 y1 r B b2 a2 n2 p2 (-1) _ (HM.out.ext AL) (jX.ext aN) hc.dB Em.out HD.out mV).mono ?_);rintro e_ wz ⟨z1,rfl,hz1,bg⟩;go_wp2_with (fail);(try clear ak);(refine ny hK (hHeld.ext (AL.trans bg)) λak=>?_);clear hK K
 rename_i wz;have GZ:=AL.trans bg;have jr:=HM.out.ext GZ;have jA:=qeV jr ((fo.ext (az.trans aN)).ext bg) hz1;have aU:Ext _ (wz.alloc (.cells #[.int .i64 x1.lv,.bool x1.b,.slice x1.a x1.n x1.p,.slice x1.ka x1.kn x1.kp,.int .i64 z1.lv,.bool z1.b,.slice z1.a z1.n z1.p,.slice z1.ka z1.kn z1.kp] 42)):=GZ.alloc _;refine aI 6 λK hK=>?_;go_simp;refine nx hK (hHeld.ext aU) ?_;clear hK K
 (refine aI 7 λK hK=>?_);go_simp;(refine(qqO _ 4 _ 2 _ _ (HM.out.ext aU) jA (by rw[X5];exact hL)).mono ?_);rintro e_ wz ⟨u,rfl,hu,fM⟩;go_wp2_with (fail);(try clear ak);(refine ny hK (hHeld.ext (aU.trans fM)) λak=>?_);clear hK K
 rw[X5]at hu
 (refine aI 8 λK hK=>?_);go_simp;(refine(FD _ 4 u _ _ (HM.out.ext (aU.trans fM)) hu).mono ?_);rintro e_ wz ⟨v,rfl,hv,mF⟩;go_wp2_with (fail);(try clear ak);(refine ny hK (hHeld.ext ((aU.trans fM).trans mF)) λak=>?_);clear hK K
 obtain⟨⟨q0,q1,q2,q3⟩,⟨f0,f1,f2,f3⟩,⟨r0,r1,r2,r3⟩,HF⟩:=gI (M:=M) (w:=w) (HB.out.ext ((aU.trans fM).trans mF)) (Mx.at (by omega)) (by omega) (HE.out.trans ((aU.trans fM).trans mF)) hv Mx.sub
 (refine aI 9 λK hK=>?_);go_simp;(refine fz hK ?_);clear hK K
 clear ah az aN bg aU fM mF E8 AL GZ fo jX hz1 hc hu hv hHeld jA jr;go_wp2;exact aV (v:=.agg (ag v)) (by simp[results,Tryz.results9,go_sem,r0,r1,r2,r3]) rfl HF.out
end Go.Proofs.YtaafefeafonhdaaGreat
namespace Go.Proofs.YtaafefeafonhdaaGreat
open Go.ChangeShapes Go.WideShapes Go.ChangeAt Go.RowKit Go.Deep
section
variable{H:Type}{enc:TypeId × Value->H}
theorem qi8{W W':World}(he:Ext W W'){sp:Nat->Bool}(hl:laidOutB Tryz.prog=true):∀{ts:List TypeId}{vs:List Value}{ds:List (DataW H)}{ps:List MemPlace},
 (∀t∈ts,Tryz.prog.readableRec t=true/\t<Tryz.prog.types.size)->DataW.TrodAll enc Tryz.prog W 0 (λ_=>true) true ts vs ds ps->(∀p∈ps,p.block<W.heap.size/\sp p.block=true)->DataW.TrodAll enc Tryz.prog W' 0 sp true ts vs ds ps
 |[],_,_,_,_,h,_=>by
  obtain⟨rfl,rfl,rfl⟩:=trodAll_nil h;rfl
 |t::ts,_,_,_,hr,h,hp=>by
  obtain⟨v,vs,d,ds,p,q,rfl,rfl,rfl,h1,h2⟩:=trodAll_cons h;have ht:=hr t (List.mem_cons_self ..);refine⟨p,q,WideElems.Trod_stays hl ht.1 ht.2 h1 (λx hx=>Below.same he (hp x (List.mem_append_left _ hx)).1) (λx hx=>(hp x (List.mem_append_left _ hx)).2),qi8 he hl (λt' h'=>hr t' (List.mem_cons_of_mem _ h')) h2 (λx hx=>hp x (List.mem_append_right _ hx)),rfl⟩
theorem qBR{f:Func}{s:ChangeSpec}{apart fresh handsOn again:Bool}{W W':World}{args:Array Value}{ds:List (DataW H)}{before:List MemPlace}{tb:TypeId}
 (hl:laidOutB Tryz.prog=true) (hr:∀t∈f.params.toList,Tryz.prog.readableRec t=true/\t<Tryz.prog.types.size) (hv:s.vars=[]) (hs:s.fn H ds={results:=[.lit (.bool true)],args:=ds})
 (hR:f.resultTypes= #[tb]) (WX:Tryz.prog.underlying tb=some .bool) (hW:DataW.Whole enc Tryz.prog f.params.toList s.vars apart W args.toList ds [] before) (he:Ext W W'):
 s.post enc Tryz.prog f apart fresh handsOn again W args (.bool true) W':=by
 have hlt:∀p∈before,p.block<W.heap.size:=λp hp=>hW.lt p hp;have hW':=hW;obtain⟨pa,pv,hA,hV,Sa,hz,hn⟩:=hW;rw[hv]at hV;obtain rfl:pv=[]:=hV;rw[List.append_nil]at Sa;subst Sa
 have KC:s.fn H (ds++[])={results:=[.lit (.bool true)],args:=ds}:=by rw[List.append_nil];exact hs
 have iw:∀sp:Nat->Bool,(∀p∈before,sp p.block=true)->DataW.TrodAll enc Tryz.prog W' 0 sp true f.params.toList args.toList ds before:=λsp H5=>qi8 he hl hr hA λp hp=>⟨hlt p hp,H5 p hp⟩
 have hres:∀(b:Nat)(sp:Nat->Bool)(hd:Bool),DataW.TrodAll enc Tryz.prog W' b sp hd f.resultTypes.toList ((Value.bool true).resultList f.resultTypes.size) [.lit (.bool true)] []:=by
  intro b sp hd;rw[hR];exact⟨[],[],shut_bool WX true,rfl,rfl⟩
 refine⟨ds,[],before,[],before,[],hW',by rw[KC];exact hres _ _ _,by rw[KC];exact iw _ (λp hp=>by simpa using hlt p hp),by rw[KC,hv];rfl,World.keptBut_mono (λp hp=>⟨hp,.inr (.inl hp)⟩) (Below.frame he (· ∈before)),λ_=>?_⟩;refine⟨ok_one hR rfl (okWide_bool_mk WX true),_,[],([]++before)++[],⟨[]++before,[],trodAll_append (iw _ (λ_ _=>rfl)) (hres _ _ _),by rw[hv];rfl,rfl,?_,?_⟩,?_⟩
 ·intro b off hp
  have wC:MemPlace.cell b off∈before:=by simpa using hp
  rw[Below.frozen he (hlt _ wC)];exact hz b off wC
 ·intro ha;simpa using hn ha
 ·intro p hp _;simpa using hp
end
end Go.Proofs.YtaafefeafonhdaaGreat
namespace Go.Proofs.YtaafefeafonhdaaGreat
open Go.RowKit
end Go.Proofs.YtaafefeafonhdaaGreat
namespace Go.Proofs.YtaafefeafonhdaaGreat
open Go.ChangeShapes Go.WideShapes Go.ChangeAt Go.RowKit Go.Deep
namespace recpolyArithmetic
end recpolyArithmetic
end Go.Proofs.YtaafefeafonhdaaGreat
