/- pseudo.divideOut. pseudo.Multiplicity, pseudo.Without; the law's own times. Multiplicities: plain facts; small arguments. -/
import Derived.Test.YtmcfpnmoklnhoaaGreatCb
import Derived.Test.YtmcfpnmoklnhoaaGreatBj
import Derived.Test.YtmcfpnmoklnhoaaGreatCa
set_option linter.unusedVariables false
set_option linter.unusedSimpArgs false

namespace Go.Proofs.YtmcfpnmoklnhoaaGreat
open Go.RowKit

def NC (l:List Tm):Prop:=∃ m k,qab l m≠0/\1<=k/\k<=4/\0<m.get k
theorem NC.ne {l:List Tm} (h:NC l) : ¬ Sim l []:=fun hs=>by
 obtain ⟨m,k,h1,_⟩:=h;exact h1 (hs m)
def qr1 (M:Nat->Prop) (w':World) (l g s:List Tm) (A:Nat) (v:PE) (k:Nat) (er:Int):Prop:=(er=2/\Sim l []/\k=0/\v=PE.z)∨(er=12 /\ ¬ Sim l []/\(∃ z,Sim g [(z,Mo.zero)])/\k=0/\v=PE.z)∨(er=0 /\ ¬ Sim l []/\NC g /\ ∃ r,CRx M w' 4 v r/\Sim (pmul r (qaO s k)) l /\ ¬ Dv s r/\dlen (nrm r)<=A)
theorem qr1.ext {M:Nat->Prop} {w w':World} {l g s:List Tm} {A:Nat} {v:PE} {k:Nat} {er:Int} (h:qr1 M w l g s A v k er) (he:Ext w w'):qr1 M w' l g s A v k er:=
 h.imp id (Or.imp id fun ⟨h1,h2,h3,r,h4,h5⟩=>⟨h1,h2,h3,r,h4.ext he,h5⟩)
theorem qr1.more {M M':Nat->Prop} {w:World} {l g s:List Tm} {A:Nat} {v:PE} {k:Nat} {er:Int} (h:qr1 M w l g s A v k er) (hm : ∀ g,M' g->M g∨w.heap.size<=g):qr1 M' w l g s A v k er:=
 h.imp id (Or.imp id fun ⟨h1,h2,h3,r,h4,h5⟩=>⟨h1,h2,h3,r,h4.more hm,h5⟩)
def qy7 (M:Nat->Prop) (w:World) (l g s:List Tm) (A:Nat) (e:Ending) (w':World):Prop:=∃ (v:PE) (k:Nat) (er:Int),e = .returned (.tuple #[.agg (peA v),.int .i64 k,.int .i64 er])/\qr1 M w' l g s A v k er/\Ext w w'
structure DoS (M:Nat->Prop) (w:World) (x y:PE) (l g:List Tm) (wr:World):Prop where
 p:P4 wr w.heap.size x
 q:Blk wr (w.heap.size+1) 33 4 (arr (peA y))
 b:Blk wr (w.heap.size+2) 33 4 (arr zA)
 m:Mb (Mx M w.heap.size (w.heap.size+3)) wr
 x:PI (Mx M w.heap.size (w.heap.size+3)) wr x l
 y:PI (Mx M w.heap.size (w.heap.size+3)) wr y g
 e:Ext w wr
 s:w.heap.size+3<=wr.heap.size
theorem DoS.ext {M:Nat->Prop} {w wr w':World} {x y:PE} {l g:List Tm} (h:DoS M w x y l g wr) (he:Ext wr w'):DoS M w x y l g w':=
 ⟨h.p.ext he,h.q.ext he,h.b.ext he,h.m.ext he,h.x.ext he,h.y.ext he,h.e.trans he,Nat.le_trans h.s he.size⟩
theorem qxB {M:Nat->Prop} {w:World} (hM:Mb M w) {x y:PE} {l g:List Tm} (h:PI M w x l) (hy:PI M w y g):DoS M w x y l g (((w.alloc (.cells (peA x) 33)).alloc (.cells (peA y) 33)).alloc (.cells zA 33)):=by
 obtain ⟨hE0,hX0,hY0,hB0,hM0⟩:=qks hM x y;have hb:=(Blk.of_arr (w.alloc (.cells (peA x) 33)) (peA y) 33 4 rfl).alloc (.cells zA 33);simp only [World.size_alloc] at hb;exact ⟨hX0,hb,hB0,hM0,(h.more (Mx.more (Nat.le_refl _))).ext hE0,(hy.more (Mx.more (Nat.le_refl _))).ext hE0,hE0,by simp⟩
structure DoL (M:Nat->Prop) (w:World) (x y:PE) (r s:List Tm) (wr:World):Prop where
 p:P4 wr (w.heap.size+1) y
 b:Blk wr (w.heap.size+2) 33 4 (arr (peA x))
 m:Mb (Mx M w.heap.size (w.heap.size+3)) wr
 x:CRx (Mx M w.heap.size (w.heap.size+3)) wr 4 x r
 y:CRx (Mx M w.heap.size (w.heap.size+3)) wr 4 y s
 e:Ext w wr
 s:w.heap.size+3<=wr.heap.size
theorem DoL.ext {M:Nat->Prop} {w wr w':World} {x y:PE} {r s:List Tm} (h:DoL M w x y r s wr) (he:Ext wr w'):DoL M w x y r s w':=
 ⟨h.p.ext he,h.b.ext he,h.m.ext he,h.x.ext he,h.y.ext he,h.e.trans he,Nat.le_trans h.s he.size⟩
theorem DoL.put {M:Nat->Prop} {w wr:World} {x y v:PE} {r s q:List Tm} (h:DoL M w x y r s wr) (hv:CRx (Mx M w.heap.size (w.heap.size+3)) wr 4 v q):DoL M w v y q s (set4 wr (w.heap.size+2) 0 (.int .i64 v.lv) (.bool v.b) (.slice v.a v.n v.p) (.slice v.ka v.kn v.kp)):=by
 have hMg:Mx M w.heap.size (w.heap.size+3) (w.heap.size+2):=Mx.at (by omega);have hk:Kp (Mx M w.heap.size (w.heap.size+3)) wr (set4 wr (w.heap.size+2) 0 (.int .i64 v.lv) (.bool v.b) (.slice v.a v.n v.p) (.slice v.ka v.kn v.kp)):=Kp.set4 hMg 0 _ _ _ _;exact ⟨h.p.of_heap (qaf wr (w.heap.size+2) 0 _ _ _ _ (w.heap.size+1) (by omega)),(h.b.set4 0 _ _ _ _).congr (fun i hi=>qwZ i hi),h.m.size hk.1,hv.kp hk,h.y.kp hk,h.e.set4 (by omega) 0 _ _ _ _,Nat.le_trans h.s hk.1⟩
theorem qwe {r s l:List Tm} {k B:Nat} (hr:NN r) (hs:NN s) (zs : ¬ Sim s []) (h:Sim (pmul r (qaO s k)) l) (hB:Deg B l):Deg B r:=
 qeh hr (qdT hs k) (qgw hs zs k) h hB
theorem qwB {r s l:List Tm} {k:Nat} (hz : ¬ Sim l []) (h:Sim (pmul r (qaO s k)) l) : ¬ Sim r []:=fun hs=>hz (h.symm.trans (hs.pmul_left _))
theorem quT {r q s l:List Tm} {k:Nat} (h:Sim (pmul r (qaO s k)) l) (hq:Sim (pmul q s) r):Sim (pmul q (qaO s (k+1))) l:=
 ((Sim.pmul_comm (qaO s k) s).pmul_right q).trans ((Sim.pmul_assoc q s (qaO s k)).symm.trans ((hq.pmul_left _).trans h))


structure DoA (M:Nat->Prop) (w:World) (l g s:List Tm) (x y:PE) (C G B A:Nat):Prop where
 hm:Mb M w
 hx:PI M w x l
 hy:PI M w y g
 sn : ∀ (M':Nat->Prop) (W':World),Mb M' W'->(∀ g,M' g->M g∨w.heap.size<=g)->Ext w W'->Calls Tryz.prog 73 #[.agg (peA y)] W' (qa4 M' W' 4 s)
 nc:NC g->NC s
 ns:NN s
 hB:Deg B l
 hC:Deg C s
 hA:dlen (nrm l)<=A
 hG:dlen (nrm s)<=G
 hO:OkB C 4 B
 hS:A+(B+1)*(qX C 4 B*(G+2))<=549755813888
 B2:(B+1) ^ 4<=1099511627776
 B3:B<=1000000
theorem DoA.ext {M M':Nat->Prop} {w w':World} {l g s:List Tm} {x y:PE} {C G B A:Nat} (h:DoA M w l g s x y C G B A) (hM:Mb M' w') (hm : ∀ g,M' g->M g∨w.heap.size<=g) (he:Ext w w'):DoA M' w' l g s x y C G B A:=
 ⟨hM,(h.hx.more hm).ext he,(h.hy.more hm).ext he,fun M2 W2 h1 h2 h3=>h.sn M2 W2 h1 (fun q hq=>(h2 q hq).elim (fun k=>hm q k) (fun k=>.inr (Nat.le_trans he.size k))) (he.trans h3),h.nc,h.ns,h.hB,h.hC,h.hA,h.hG,h.hO,h.hS,h.B2,h.B3⟩
def qyo (M:Nat->Prop) (w:World) (l g s:List Tm) (A:Nat) (e:Ending) (w':World):Prop:=∃ (v:PE) (k:Nat) (er:Int),e = .returned (.tuple #[.int .i64 k,.int .i64 er])/\qr1 M w' l g s A v k er/\Ext w w'
def qyb (M:Nat->Prop) (w:World) (l g s:List Tm) (A:Nat) (e:Ending) (w':World):Prop:=∃ (v:PE) (er:Int),e = .returned (.tuple #[.agg (peA v),.int .i64 er])/\((er=2/\Sim l []/\v=PE.z)∨(er=12 /\ ¬ Sim l []/\(∃ z,Sim g [(z,Mo.zero)])/\v=PE.z)∨(er=0 /\ ¬ Sim l []/\NC g /\ ∃ k r,CRx M w' 4 v (snorm r)/\NN r/\Sim (pmul r (qaO s k)) l /\ ¬ Dv s r/\dlen (nrm r)<=A))/\Ext w w'


theorem NC.snorm {g:List Tm} (hg:NN g) (h:NC g):NC (Go.Proofs.YtmcfpnmoklnhoaaGreat.snorm g):=by
 obtain ⟨m,k,h1,h2⟩:=h;refine ⟨m,k,fun h0=>h1 ?_,h2⟩;rw [<- qc6 hg m,qag,h0,Int.mul_zero]
theorem NC.lv {g:List Tm} {k:Nat} (h:NC g) (hk:LvR g k):k≠0:=fun h0=>by
 obtain ⟨m,j,h1,h2,h3,h4⟩:=h;have:=hk.2.1 m h1 j (by omega) h3;omega
end Go.Proofs.YtmcfpnmoklnhoaaGreat
