/- Cg -/
import Derived.Test.YtmcfpnmoklnhoaaGreatCb
import Derived.Test.YtmcfpnmoklnhoaaGreatBj
set_option linter.unusedVariables false
set_option linter.unusedSimpArgs false
namespace Go.Proofs.YtmcfpnmoklnhoaaGreat
open Go.RowKit
def NC(l:List Tm):Prop:=∃m k,aB l m≠0/\1<=k/\k<=4/\0<m.get k
def Zc(M:Nat->Prop)(w':World)(l g s:List Tm)(A:Nat)(v:PE)(k:Nat)(er:Int):Prop:=(er=2/\ae l []/\k=0/\v=PE.z)\/(er=12/\¬ae l []/\(∃z,ae g [(z,Mo.zero)])/\k=0/\v=PE.z)\/(er=0/\¬ae l []/\NC g/\∃r,aI M w' 4 v r/\ae (ai r (bA s k)) l/\¬Dv s r/\az (aC r)<=A)
theorem Zc.ext{M:Nat->Prop}{w w':World}{l g s:List Tm}{A:Nat}{v:PE}{k:Nat}{er:Int}(h:Zc M w l g s A v k er)(he:Ext w w'):Zc M w' l g s A v k er:=
 h.imp id (Or.imp id λ⟨h1,h2,h3,r,h4,h5⟩=>⟨h1,h2,h3,r,h4.ext he,h5⟩)
structure WY(M:Nat->Prop)(w:World)(x y:PE)(l g:List Tm)(wr:World):Prop where
 p:P4 wr w.heap.size x
 q:ak wr (w.heap.size+1) 33 4 (arr (ah y))
 b:ak wr (w.heap.size+2) 33 4 (arr zA)
 m:Mb (Mx M w.heap.size (w.heap.size+3)) wr
 x:PI (Mx M w.heap.size (w.heap.size+3)) wr x l
 y:PI (Mx M w.heap.size (w.heap.size+3)) wr y g
 e:Ext w wr
 s:w.heap.size+3<=wr.heap.size
theorem WY.ext{M:Nat->Prop}{w wr w':World}{x y:PE}{l g:List Tm}(h:WY M w x y l g wr)(he:Ext wr w'):WY M w x y l g w':=
 ⟨h.p.ext he,h.q.ext he,h.b.ext he,h.m.ext he,h.x.ext he,h.y.ext he,h.e.trans he,Nat.le_trans h.s he.size⟩
structure J2(M:Nat->Prop)(w:World)(x y:PE)(r s:List Tm)(wr:World):Prop where
 p:P4 wr (w.heap.size+1) y
 b:ak wr (w.heap.size+2) 33 4 (arr (ah x))
 m:Mb (Mx M w.heap.size (w.heap.size+3)) wr
 x:aI (Mx M w.heap.size (w.heap.size+3)) wr 4 x r
 y:aI (Mx M w.heap.size (w.heap.size+3)) wr 4 y s
 e:Ext w wr
 s:w.heap.size+3<=wr.heap.size
theorem J2.ext{M:Nat->Prop}{w wr w':World}{x y:PE}{r s:List Tm}(h:J2 M w x y r s wr)(he:Ext wr w'):J2 M w x y r s w':=
 ⟨h.p.ext he,h.b.ext he,h.m.ext he,h.x.ext he,h.y.ext he,h.e.trans he,Nat.le_trans h.s he.size⟩
theorem J2.put{M:Nat->Prop}{w wr:World}{x y v:PE}{r s q:List Tm}(h:J2 M w x y r s wr)(hv:aI (Mx M w.heap.size (w.heap.size+3)) wr 4 v q):J2 M w v y q s (aH wr (w.heap.size+2) 0 (.int .i64 v.lv) (.bool v.b) (.slice v.a v.n v.p) (.slice v.ka v.kn v.kp)):=by
 have lX:Mx M w.heap.size (w.heap.size+3) (w.heap.size+2):=Mx.at (by omega);have hk:Kp (Mx M w.heap.size (w.heap.size+3)) wr (aH wr (w.heap.size+2) 0 (.int .i64 v.lv) (.bool v.b) (.slice v.a v.n v.p) (.slice v.ka v.kn v.kp)):=Kp.aH lX 0 _ _ _ _;exact⟨h.p.of_heap (il wr (w.heap.size+2) 0 _ _ _ _ (w.heap.size+1) (by omega)),(h.b.aH 0 _ _ _ _).congr (λi hi=>qgN i hi),h.m.size hk.1,hv.kp hk,h.y.kp hk,h.e.aH (by omega) 0 _ _ _ _,Nat.le_trans h.s hk.1⟩
structure WX(M:Nat->Prop)(w:World)(l g s:List Tm)(x y:PE)(C G B A:Nat):Prop where
 hm:Mb M w
 hx:PI M w x l
 hy:PI M w y g
 sn:∀(M':Nat->Prop)(W':World),Mb M' W'->(∀g,M' g->M g\/w.heap.size<=g)->Ext w W'->Calls Tryz.prog 73 #[.agg (ah y)] W' (dH M' W' 4 s)
 nc:NC g->NC s
 ns:NN s
 hB:bn B l
 hC:bn C s
 hA:az (aC l)<=A
 hG:az (aC s)<=G
 hO:KJ C 4 B
 hS:A+(B+1)*(qX C 4 B*(G+2))<=549755813888
 B2:(B+1)^4<=1099511627776
 B3:B<=1000000
theorem WX.ext{M M':Nat->Prop}{w w':World}{l g s:List Tm}{x y:PE}{C G B A:Nat}(h:WX M w l g s x y C G B A)(hM:Mb M' w')(hm:∀g,M' g->M g\/w.heap.size<=g)(he:Ext w w'):WX M' w' l g s x y C G B A:=
 ⟨hM,(h.hx.more hm).ext he,(h.hy.more hm).ext he,λM2 W2 h1 h2 h3=>h.sn M2 W2 h1 (λq hq=>(h2 q hq).elim (λk=>hm q k) (λk=>.inr (Nat.le_trans he.size k))) (he.trans h3),h.nc,h.ns,h.hB,h.hC,h.hA,h.hG,h.hO,h.hS,h.B2,h.B3⟩
end Go.Proofs.YtmcfpnmoklnhoaaGreat
