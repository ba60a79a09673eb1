/- Division of polynomials in one variable: the loop of unidiv.Pseudo in integers is the division of chapter 24 with constants. unidiv.Exact in integers, plain: the quotient if there is one. The product of two polynomials in one variable, by its coefficients. A factor of a polynomial in one variable: its coefficients in that variable alone are a quotient, too. Factors of polynomials in one variable: a factor in several variables is one in that variable alone. The rest of a division with a constant leading coefficient vanishes exactly if the primitive part divides. Rows of integers of one's own: reading and writing; unipoly.Lead. unidiv.Pseudo. unidiv.Pseudo: the walk. unidiv.Exact: plain. unidiv.Exact: the walk. unidiv.Divides; cylinderlaw24.digits. PseudoUni, plain: the two layers give the same. -/
import Derived.Test.YtmcfpnmoklnhoaaGreatEc
import Derived.Test.YtmcfpnmoklnhoaaGreatBa
import Derived.Test.YtmcfpnmoklnhoaaGreatMv
import Derived.Test.YtmcfpnmoklnhoaaGreatNr
import Derived.Test.YtmcfpnmoklnhoaaGreatRc
import Derived.Test.YtmcfpnmoklnhoaaGreatEg
import Derived.Test.YtmcfpnmoklnhoaaGreatBj
import Derived.Test.YtmcfpnmoklnhoaaGreatEe
import Derived.Test.YtmcfpnmoklnhoaaGreatNe
import Derived.Test.YtmcfpnmoklnhoaaGreatDa
import Derived.Test.YtmcfpnmoklnhoaaGreatMw
set_option linter.unusedVariables false
set_option linter.unusedSimpArgs false

namespace Go.Proofs.YtmcfpnmoklnhoaaGreat

def cst (z:Int):List Tm:=[(z,Mo.zero)]
theorem qeU:Sim (cst 0) []:=qbQ
theorem qgZ (a b:Int):Sim (pmul (cst a) (cst b)) (cst (a*b)):=fun m=>by
 simp [pmul,cst,smul,shift,qab,Mo.add,Mo.zero]
theorem cst_add (a b:Int):Sim (cst a ++ cst b) (cst (a+b)):=fun m=>by
 simp only [cst,List.cons_append,List.nil_append,qab]
 split <;> omega
theorem cst_sub (a b:Int):Sim (cst a ++ qbz (cst b)) (cst (a - b)):=by
 have h:=(Sim.refl (cst a)).append (qgZ b (-1));rw [Int.mul_neg,Int.mul_one] at h;exact h.trans (cst_add a (-b))
def zS (k:Nat) (c top:Int) (G R:Nat->Int) (j i:Nat):Int:=if i<j then (if k<=i then R i*c - top*G (i - k) else R i*c) else R i
def zR (n V:Nat) (G R0:Nat->Int):Nat->Nat->Int
 | 0=>R0
 | t+1=>zS (V - 1 - t) (G n) (zR n V G R0 t (n+(V - 1 - t))) G (zR n V G R0 t) (n+(V - 1 - t))
theorem pdS_cst {k j : Nat} {c top : Int} {G R : Nat -> Int} {c' top' : List Tm} {G' R' : Nat -> List Tm} (hc : Sim c' (cst c)) (ht : Sim top' (cst top)) (hG : ∀ i, Sim (G' i) (cst (G i))) (hR : ∀ i, Sim (R' i) (cst (R i))) (i : Nat) :
  Sim (pdS k c' top' G' R' j i) (cst (zS k c top G R j i)):=by
 unfold pdS zS
 split
 ·have h1:=((hR i).pmul hc).trans (qgZ _ _)
  split
  ·exact (h1.append (((ht.pmul (hG _)).trans (qgZ _ _)).pmul_left _)).trans (cst_sub _ _)
  ·exact h1
 ·exact hR i
theorem pdR_cst {n V:Nat} {G R0:Nat->Int} {G' R0':Nat->List Tm} (hG : ∀ i,Sim (G' i) (cst (G i))) (hR : ∀ i,Sim (R0' i) (cst (R0 i))) : ∀ t i,Sim (pdR n V G' R0' t i) (cst (zR n V G R0 t i))
 | 0=>hR
 | t+1=>fun i=>pdS_cst (hG n) (pdR_cst hG hR t _) hG (pdR_cst hG hR t) i
theorem qqC (D:Nat) (z:Int):Low D (cst z):=(qdS z).mono (Nat.zero_le _)
theorem qnk {D:Nat} (hD:D+1<=4) (n:Nat) (z:Nat->Int) (i:Nat):Sim (qb3 (D+1) (upl (D+1) n z) i) (cst (if i<n then z i else 0)):=by
 refine (qbv hD (fun i _=>qqC D (z i)) i).trans ?_
 split
 ·exact Sim.refl _
 ·exact qeU.symm
def zx0 (n:Nat) (z:Nat->Int) (i:Nat):Int:=if i<n then z i else 0
theorem qq2 {a:Int} {A:Nat} (h:dlen a.natAbs<=A):dlen (-a).natAbs<=A:=by rw [Int.natAbs_neg];exact h


def zC (q g:Nat->Int):Nat->Nat->Int
 | 0,_=>0
 | V+1,i=>zC q g V i+(if V<=i then q V*g (i - V) else 0)
theorem qi5 {q q' g:Nat->Int} {i:Nat} : ∀ V,(∀ k,k<V->q k=q' k)->zC q g V i=zC q' g V i
 | 0,_=>rfl
 | V+1,h=>by
  simp only [zC];rw [qi5 V fun k hk=>h k (by omega),h V (by omega)]
theorem qlg {q g:Nat->Int} {n:Nat} (hg : ∀ i,n<i->g i=0) : ∀ V i,n+V<=i->zC q g V i=0
 | 0,_,_=>rfl
 | V+1,i,h=>by
  simp only [zC];rw [qlg hg V i (by omega),hg (i - V) (by omega)];simp


theorem qbs (t:Int) {a b:Nat->Int} : ∀ n,(∀ i,i<n->a i=b i)->psI t a n=psI t b n
 | 0,_=>rfl
 | n+1,h=>by
  show psI t a n+a n*t ^ n=psI t b n+b n*t ^ n;rw [qbs t n fun i hi=>h i (by omega),h n (by omega)]
theorem qeG (t:Int) (a b:Nat->Int) : ∀ n,psI t (fun i=>a i+b i) n=psI t a n+psI t b n
 | 0=>rfl
 | n+1=>by
  show psI t (fun i=>a i+b i) n+(a n+b n)*t ^ n=psI t a n+a n*t ^ n+(psI t b n+b n*t ^ n);rw [qeG t a b n,Int.add_mul];omega
theorem qeE (t:Int) : ∀ n,psI t (fun _=>0) n=0
 | 0=>rfl
 | n+1=>by
  show psI t (fun _=>0) n+0*t ^ n=0;rw [qeE t n];simp
theorem qfe (t:Int) (F:Nat->Int) (V:Nat) : ∀ k,psI t F (V+k)=psI t F V+t ^ V*psI t (fun i=>F (V+i)) k
 | 0=>by
  show psI t F V=psI t F V+t ^ V*0;simp
 | k+1=>by
  show psI t F (V+k)+F (V+k)*t ^ (V+k)=psI t F V+t ^ V*(psI t (fun i=>F (V+i)) k+F (V+k)*t ^ k);rw [qfe t F V k,Int.pow_add,Int.mul_add,Int.mul_left_comm (t ^ V) (F (V+k)) (t ^ k)];omega
theorem qgs (t c:Int) (a:Nat->Int) : ∀ n,psI t (fun i=>c*a i) n=c*psI t a n
 | 0=>by show (0:Int)=c*0;simp
 | n+1=>by
  show psI t (fun i=>c*a i) n+c*a n*t ^ n=c*(psI t a n+a n*t ^ n);rw [qgs t c a n,Int.mul_add,Int.mul_assoc]
theorem qfj (z:Int):NN (cst z):=fun m hm=>by
 show qab [(z,Mo.zero)] m=0;unfold qab qab
 by_cases e:Mo.zero=m
 ·subst e;exact absurd hm (by decide)
 ·rw [if_neg e];rfl
theorem qc2 (L n:Nat) (z:Nat->Int):NN (upl L n z):=NN.poly fun i _=>qfj (z i)
theorem qsz (x:Nat->Int) {L:Nat} (h1:1<=L) (h4:L<=4) (n:Nat) (z:Nat->Int):ev x (upl L n z)=psI (x (L - 1)) z n:=
 (qmN x L n _ h1 h4 fun i _=>qfj (z i)).trans (qbs _ _ fun i _=>qdp x (z i))


def zK (g:Nat->Int) (r:List Tm) (L:Nat) (m:Mo):Nat->Int
 | 0=>0
 | k+1=>zK g r L m k+g k*qab r (Mo.sub m (xp L (k:Int)))
theorem qeu (L:Nat) (g:Nat->Int) (r:List Tm) (m:Mo) : ∀ k,qab (pmul (upl L k g) r) m=zK g r L m k
 | 0=>rfl
 | k+1=>by
  unfold upl;rw [qaf,qav,qae];have h:=qeu L g r m k;unfold upl at h;rw [h];show _+qab (pmul [(g k,Mo.add Mo.zero (xp L (k:Int)))] r) m=_
  have e:Mo.add Mo.zero (xp L (k:Int))=xp L (k:Int):=by simp [Mo.add,Mo.zero]
  rw [e];show _+qab (shift (xp L (k:Int)) (smul (g k) r) ++ []) m=_;rw [List.append_nil,qaA,qao];rfl
theorem qrV (L:Nat) (i j:Int):Mo.sub (xp L i) (xp L j)=xp L (i - j):=by
 simp only [Mo.sub,xp,Mo.mk.injEq];refine ⟨?_,?_,?_,?_⟩ <;> split <;> omega
theorem qsl {L:Nat} (h1:1<=L) (h4:L<=4) {i:Int} (hi:i<0):(xp L i).nn=false:=by
 rcases qcz h1 h4 with rfl | rfl | rfl | rfl <;> simp [Mo.nn,xp] <;> omega
theorem qrF {L:Nat} (h1:1<=L) (h4:L<=4) (g:Nat->Int) {r:List Tm} (hr:NN r) (i:Nat) : ∀ k,zK g r L (xp L (i:Int)) k=zC g (fun j=>qab r (xp L (j:Int))) k i
 | 0=>rfl
 | k+1=>by
  show zK g r L _ k+g k*qab r (Mo.sub (xp L (i:Int)) (xp L (k:Int)))=zC g _ k i+(if k<=i then g k*qab r (xp L ((i - k:Nat):Int)) else 0);rw [qrF h1 h4 g hr i k,qrV]
  split
  ·rename_i h;rw [show ((i:Int) - (k:Int))=((i - k:Nat):Int) by omega]
  ·rename_i h;rw [hr _ (qsl h1 h4 (i:=(i:Int) - (k:Int)) (by omega))];simp
theorem qo3 (f:Nat->Int) (i:Nat) : ∀ m,zC f (fun j=>if j=0 then 1 else 0) m i=zx0 m f i
 | 0=>rfl
 | m+1=>by
  show zC f _ m i+(if m<=i then f m*(if i - m=0 then 1 else 0) else 0)=_;rw [qo3 f i m];unfold zx0;rcases Nat.lt_trichotomy i m with h | h | h
  ·rw [if_pos h,if_neg (by omega),if_pos (by omega),Int.add_zero]
  ·subst h;rw [if_neg (by omega),if_pos (by omega),if_pos (by omega),if_pos (by omega),Int.zero_add,Int.mul_one]
  ·rw [if_neg (by omega),if_pos (by omega),if_neg (by omega),if_neg (by omega),Int.mul_zero,Int.add_zero]
theorem qoN {L:Nat} (h1:1<=L) (h4:L<=4) (j:Nat):qab [((1:Int),Mo.zero)] (xp L (j:Int))=if j=0 then 1 else 0:=by
 have e:(Mo.zero=xp L (j:Int))↔j=0:=by
  rcases qcz h1 h4 with rfl | rfl | rfl | rfl <;> simp [Mo.zero,xp] <;> omega
 unfold qab qab;simp only [e]
 split <;> rfl
theorem qg2 {L:Nat} (h1:1<=L) (h4:L<=4) (m:Nat) (f:Nat->Int) (i:Nat):qab (upl L m f) (xp L (i:Int))=zx0 m f i:=by
 rw [<- qdL (upl L m f) (xp L (i:Int)),qeu,qrF h1 h4 f (r:=[((1:Int),Mo.zero)]) (qfj 1),<- qo3 f i m]
 congr 1
 funext j
 exact qoN h1 h4 j


section
variable {L:Nat} (h1:1<=L) (h4:L<=4) {f g:Nat->Int} {m k n:Nat}
include h1 h4
theorem qq6 (hg:zx0 k g n≠0) (hn : ∀ i,n<i->zx0 k g i=0):DgR L (upl L k g) n:=by
 refine ⟨fun m hm=>?_,.inr ⟨xp L (n:Int),by rw [qg2 h1 h4];exact hg,by rw [qat L L _ h1 h4,if_pos rfl]⟩⟩;obtain ⟨t,ht,e⟩ : ∃ t ∈ upl L k g,t.2=m:=Classical.byContradiction fun hcc=>hm (qaB fun t ht e=>hcc ⟨t,ht,e⟩);unfold upl poly at ht;obtain ⟨i,hi,ht⟩:=List.mem_flatMap.1 ht;unfold shift at ht;obtain ⟨s,hs,rfl⟩:=List.mem_map.1 ht;rw [List.mem_singleton.1 hs] at e
 have e2:m=xp L (i:Int):=by rw [<- e];simp [Mo.add,Mo.zero]
 rw [e2,qg2 h1 h4] at hm;rw [e2,qat L L _ h1 h4,if_pos rfl];have : ¬ n<i:=fun h=>hm (hn i h);omega
end


end Go.Proofs.YtmcfpnmoklnhoaaGreat

namespace Go.Proofs.YtmcfpnmoklnhoaaGreat
open Go.RowKit

def JC (w:World) (b o:Nat) (x:IE):Prop:=w.cell? ⟨b,o,none⟩=some (.bool x.b)/\w.cell? ⟨b,o+1,none⟩=some (.slice x.a x.n x.p)
theorem JC.of_heap {w w':World} {b o:Nat} {x:IE} (h:JC w b o x) (he:w'.heap[b]? = w.heap[b]?):JC w' b o x:=by
 have hc:=fun o=>World.cell?_of_block (w:=w) (w':=w') (a:=⟨b,o,none⟩) he;exact ⟨(hc _).trans h.1,(hc _).trans h.2⟩
theorem JC.ext {w w':World} {b o:Nat} {x:IE} (h:JC w b o x) (hb:b<w.heap.size) (he:Ext w w'):JC w' b o x:=h.of_heap (he.heap hb)
theorem JC.lt {w:World} {b o:Nat} {x:IE} (h:JC w b o x):b<w.heap.size:=World.block_lt_of_cell? _ _ h.1
def IX (M:Nat->Prop) (w:World) (x:IE) (z:Int):Prop:=qbq M w (.bool x.b) (.slice x.a x.n x.p) z
theorem IX.ext {M:Nat->Prop} {w w':World} {x:IE} {z:Int} (h:IX M w x z) (he:Ext w w'):IX M w' x z:=qbq.ext h he
theorem IX.kp {M:Nat->Prop} {w w':World} {x:IE} {z:Int} (h:IX M w x z) (he:Kp M w w'):IX M w' x z:=qbq.kp h he
theorem IX.more {M M':Nat->Prop} {w:World} {x:IE} {z:Int} (h:IX M w x z) (hm : ∀ g,M' g->M g∨w.heap.size<=g):IX M' w x z:=qbq.more h hm
def qcE (M:Nat->Prop) (w:World) (z:Int) (e:Ending) (w':World):Prop:=∃ x:IE,e = .returned (.agg #[.bool x.b,.slice x.a x.n x.p])/\IX M w' x z/\Ext w w'
theorem qcE.of {M:Nat->Prop} {w:World} {z:Int} {e:Ending} {w':World} (h : ∃ e0 e1,e = .returned (.agg #[e0,e1])/\qbw M w' e0 e1 z/\Ext w w'):qcE M w z e w':=by
 obtain ⟨e0,e1,rfl,hc,he⟩:=h;obtain ⟨b,a,n,p,rfl,rfl⟩:=hc.form;exact ⟨⟨b,a,n,p⟩,rfl,hc.toV,he⟩
theorem qqx {M : Nat -> Prop} (x y : IE) (p q : Int) (w : World) (hM : Mb M w) (h : IX M w x p) (k : IX M w y q) (hL : dlen p.natAbs + dlen q.natAbs <= 1099511627776) :
  Calls Tryz.prog 65 #[.agg #[.bool x.b,.slice x.a x.n x.p],.agg #[.bool y.b,.slice y.a y.n y.p]] w (qcE M w (p*q)):=(qmr _ _ _ _ p q w hM h k hL).mono fun _ _ h=>.of h
theorem qtK {M : Nat -> Prop} (x y : IE) (p q : Int) (w : World) (hM : Mb M w) (h : IX M w x p) (k : IX M w y q) (hL : dlen p.natAbs + dlen q.natAbs + 1 <= 1099511627776) :
  Calls Tryz.prog 124 #[.agg #[.bool x.b,.slice x.a x.n x.p],.agg #[.bool y.b,.slice y.a y.n y.p]] w (qcE M w (p+q)):=
 (qiH _ _ _ _ p q w hM h k (Nat.le_trans (qco _ _) (by omega))).mono fun _ _ h=>.of h
section
variable {M M':Nat->Prop} {w w':World} {g N k:Nat} {z z':Nat->Int}
theorem qb5.cel {a:Option Addr} {n cap:Nat} {X:Nat->IE} (h:qb5 M w a n cap X z) {i:Nat} (hi:i<n) : ∃ b off,a=some ⟨b,off,none⟩/\JC w b (off+i*2) (X i)/\b<w.heap.size/\IX M w (X i) (z i):=by
 obtain ⟨b,off,e,hb,_,h0,h1,h2⟩:=h.2.2.2.2 i hi;exact ⟨b,off,e,⟨h0,h1⟩,hb,h2⟩
theorem UK.cel (h:UK M w g N k z) {j:Nat} (hj:j<k) (hN:k<=N) : ∃ x:IE,JC w g (j*2) x/\IX M w x (z j):=by
 obtain ⟨X,f,hB,hf⟩:=h;obtain ⟨h0,h1,h2⟩:=hf j hj;refine ⟨X j,⟨?_,?_⟩,h2⟩
 ·rw [hB.cell (by omega),h0]
 ·rw [hB.cell (by omega),h1]
theorem UK.lt (h:UK M w g N k z):g<w.heap.size:=by
 obtain ⟨X,f,hB,hf⟩:=h;exact hB.lt
theorem UK.frz (h:UK M w g N k z) (o:Nat):w.frozen? ⟨g,o,none⟩=false:=by
 obtain ⟨X,f,hB,hf⟩:=h;exact hB.frozen o
theorem UK.congr (h:UK M w g N k z) (hz : ∀ i,i<k->z i=z' i):UK M w g N k z':=by
 obtain ⟨X,f,hB,hf⟩:=h;exact ⟨X,f,hB,fun i hi=>by rw [<- hz i hi];exact hf i hi⟩
theorem UK.kp (h:UK M w g N k z) (he:w'.heap[g]? = w.heap[g]?) (hk:Kp M w w'):UK M w' g N k z:=by
 obtain ⟨X,f,hB,hf⟩:=h;exact ⟨X,f,hB.of_heap he,fun i hi=>⟨(hf i hi).1,(hf i hi).2.1,(hf i hi).2.2.kp hk⟩⟩
theorem qdU (w:World) (g o:Nat) (e0 e1:Value) (b:Nat) (hb:b≠g):(set2 w g o e0 e1).heap[b]? = w.heap[b]?:=by
 unfold set2;rw [Below.heap_setCell _ _ _ _ hb,Below.heap_setCell _ _ _ _ hb]
theorem Kp.set2 (hg:M g) (o:Nat) (e0 e1:Value):Kp M w (Go.Proofs.YtmcfpnmoklnhoaaGreat.set2 w g o e0 e1):=(Kp.set M w (p:=⟨g,o,none⟩) hg e0).trans (Kp.set M _ (p:=⟨g,o+1,none⟩) hg e1)
theorem UK.put (h:UK M w g N N z) (hg:M g) {j:Nat} (hj:j<N) {x:IE} {v:Int} (hc:IX M w x v):UK M (set2 w g (j*2) (.bool x.b) (.slice x.a x.n x.p)) g N N fun i=>if i=j then v else z i:=by
 obtain ⟨X,f,hB,hf⟩:=h;have hk:Kp M w (set2 w g (j*2) (.bool x.b) (.slice x.a x.n x.p)):=Kp.set2 hg _ _ _;refine ⟨fun i=>if i=j then x else X i,_,(hB.set (j*2) (.bool x.b)).set (j*2+1) (.slice x.a x.n x.p),fun i hi=>?_⟩;unfold upd
 by_cases hik:i=j
 ·subst hik;simp only [if_true];exact ⟨by rw [if_neg (by omega)],trivial,hc.kp hk⟩
 ·simp only [if_neg hik];rw [if_neg (by omega),if_neg (by omega),if_neg (by omega),if_neg (by omega)];obtain ⟨h1,h2,h3⟩:=hf i (by omega);exact ⟨h1,h2,h3.kp hk⟩
def zc2 (i:Nat):Value:=if i % 2=0 then .bool false else .slice none 0 0
theorem UK.zero {f:Nat->Value} (hB:Blk w g 30 (N*2) f) (hf : ∀ i,i<N*2->f i=zc2 i):UK M w g N N fun _=>0:=by
 refine ⟨fun _=>⟨false,none,0,0⟩,f,hB,fun i hi=>⟨?_,?_,(qbw.zero M w).toV⟩⟩
 ·rw [hf _ (by omega)];unfold zc2;rw [if_pos (by omega)]
 ·rw [hf _ (by omega)];unfold zc2;rw [if_neg (by omega)]
end
theorem qnp (w:World) (N:Nat) (e:TypeId):Blk (w.alloc (.cells (madeCells (Value.agg #[.bool false,.slice none 0 0]).cells (N*2)) e)) w.heap.size e (N*2) zc2:=
 Blk.of_alloc w _ e zc2 (N*2) (by simp [madeCells]) fun i hi=>by
  have hm:i % 2<2:=Nat.mod_lt _ (by decide);unfold zc2;rcases Nat.mod_two_eq_zero_or_one i with h | h <;> simp [madeCells,hi,Array.getD_eq_getD_getElem?,h,Value.cells]


theorem qc5 {c:Int} {D:Nat} (h:dlen c.natAbs<=D) : ∀ k,dlen (c ^ k).natAbs<=k*D+1
 | 0=>by simp;decide
 | k+1=>by
  have:=qc5 h k;rw [Int.pow_succ,Int.natAbs_mul,Nat.succ_mul];have:=qaD (c ^ k).natAbs c.natAbs;omega
section
variable {n V A D:Nat} {G R0:Nat->Int} (hG : ∀ i,dlen (G i).natAbs<=D) (hR : ∀ i,dlen (R0 i).natAbs<=A)
include hG hR
end
theorem qb5.nil (M:Nat->Prop) (w:World) (X:Nat->IE) (z:Nat->Int):qb5 M w none 0 0 X z:=⟨Nat.zero_le _,Nat.le_refl _,Nat.zero_le _,fun _=>rfl,fun i hi=>absurd hi (Nat.not_lt_zero _)⟩
theorem qhi (n:Nat) (z:Nat->Int) (i:Nat):zx0 (tz z n) z i=zx0 n z i:=by
 unfold zx0;have:=qdj z n
 by_cases h:i<tz z n
 ·rw [if_pos h,if_pos (by omega)]
 ·rw [if_neg h]
  by_cases h2:i<n
  ·rw [if_pos h2,qgd z n i (by omega) h2]
  ·rw [if_neg h2]
theorem qlc {n D:Nat} {z:Nat->Int} (h : ∀ i,i<n->dlen (z i).natAbs<=D) (i:Nat):dlen (zx0 n z i).natAbs<=D:=by
 unfold zx0
 split
 ·exact h i (by assumption)
 ·exact Nat.le_trans (by decide:dlen (0:Int).natAbs<=0) (Nat.zero_le _)
def S17 (g o:Nat) (x:IE) (gl:Nat) (c:IE) (w:World):Prop:=JC w g o x/\JC w gl 0 c/\g<w.heap.size/\gl<w.heap.size
def S25 (g o:Nat) (x:IE) (gp:Nat) (p:IE) (gb o2:Nat) (y:IE) (w:World):Prop:=JC w g o x/\JC w gp 0 p/\JC w gb o2 y/\g<w.heap.size/\gp<w.heap.size/\gb<w.heap.size
theorem S25.ext {g o:Nat} {x:IE} {gp:Nat} {p:IE} {gb o2:Nat} {y:IE} {w w':World} (h:S25 g o x gp p gb o2 y w) (he:Ext w w'):S25 g o x gp p gb o2 y w':=
 ⟨h.1.ext h.2.2.2.1 he,h.2.1.ext h.2.2.2.2.1 he,h.2.2.1.ext h.2.2.2.2.2 he,Nat.lt_of_lt_of_le h.2.2.2.1 he.size,Nat.lt_of_lt_of_le h.2.2.2.2.1 he.size,Nat.lt_of_lt_of_le h.2.2.2.2.2 he.size⟩
abbrev M3 (M:Nat->Prop) (gr gq:Nat):Nat->Prop:=fun b=>(M b∨b=gr)∨b=gq
section
variable {M:Nat->Prop} {w:World} {gr gq gl N V:Nat} {c:IE} {C:Int} {a2:Option Addr} {n2 c2:Nat} {X2:Nat->IE} {z2 R Q R' Q':Nat->Int} {W W':World}
end




section
variable {V n t k A D:Nat} {F G q:Nat->Int} (hk:t+(k+1)=V)
include hk
end




theorem qrP {z:Nat->Int} {n:Nat} : tz z n=0 ↔ ∀ i,zx0 n z i=0:=by
 refine ⟨fun h i=>by rw [<- qhi,h];exact if_neg (by omega),fun h=>?_⟩;rcases qlo z n with h0 | h0
 ·exact h0
 ·refine Classical.byContradiction fun hc=>h0 ?_;have h1:=h (tz z n - 1);unfold zx0 at h1
  rwa [if_pos (by have:=qdj z n;omega)] at h1


section
variable {L:Nat} (h1:1<=L) (h4:L<=4)
include h1 h4
theorem qgb {n:Nat} {z:Nat->Int} : Sim (upl L n z) []↔tz z n=0:=by
 refine ⟨fun h=>qrP.2 fun i=>?_,fun h=>?_⟩
 ·rw [<- qg2 h1 h4 n z i,h];rfl
 ·refine qrL.symm.trans ?_;rw [h];exact Sim.refl _
omit h1 h4 in
theorem qgf {n k:Nat} {z:Nat->Int} (h:tz z n=k+1):zx0 n z k≠0 /\ ∀ i,k<i->zx0 n z i=0:=by
 have h0:=(qlo z n).resolve_left (by omega);have h2:=qdj z n;refine ⟨?_,fun i hi=>by rw [<- qhi,h];exact if_neg (by omega)⟩;unfold zx0;rw [if_pos (by omega)];rw [h] at h0;exact h0
theorem qpI {n k:Nat} {z:Nat->Int} (h:tz z n=k+1):DgR L (upl L n z) k:=qq6 h1 h4 (qgf h).1 (qgf h).2
end
end Go.Proofs.YtmcfpnmoklnhoaaGreat
