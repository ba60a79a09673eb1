/- Rows of sparse polynomials; the sort of at most two equal ones. Plain facts: the order of sparse polynomials; families. mainvar.Family. cylinderlaw23.fit: the fixed example. -/
import Derived.Test.YtmcfpnmoklnhoaaGreatDa
import Derived.Test.YtmcfpnmoklnhoaaGreatNe
import Derived.Test.YtmcfpnmoklnhoaaGreatMi
import Derived.Test.YtmcfpnmoklnhoaaGreatMp
import Derived.Scope
set_option linter.unusedVariables false
set_option linter.unusedSimpArgs false

namespace Go.Proofs.YtmcfpnmoklnhoaaGreat
open Go.RowKit

structure SE where
 a:Option Addr
 n:Nat
 p:Nat
 l:List Tm
instance:Inhabited SE:=⟨⟨none,0,0,[]⟩⟩
def sv (x:SE):Value:=.slice x.a x.n x.p
def sx (x:Nat->SE):Nat->Value:=fun i=>sv (x i)
def qt8 (M:Nat->Prop) (w:World) (g cap n:Nat) (y:Nat->SE):Prop:=∃ F,Blk w g 71 cap F/\(∀ j,j<n->F j=sv (y j)) /\ ∀ i,i<n->qbh M w (sv (y i)) (y i).l/\dlen (nrm (y i).l)<=1099511627776
theorem qt8.ext {M:Nat->Prop} {w w':World} {g cap n:Nat} {y:Nat->SE} (h:qt8 M w g cap n y) (he:Ext w w'):qt8 M w' g cap n y:=by
 obtain ⟨F,h1,h2,h3⟩:=h;exact ⟨F,h1.ext he,h2,fun i hi=>⟨(h3 i hi).1.ext he,(h3 i hi).2⟩⟩
theorem qt8.cell {M:Nat->Prop} {w:World} {g cap n:Nat} {y:Nat->SE} (h:qt8 M w g cap n y) (hn:n<=cap) (i:Nat) (hi:i<n):w.cell? ⟨g,i,none⟩=some (.slice (y i).a (y i).n (y i).p):=by
 obtain ⟨F,h1,h2,h3⟩:=h;rw [h1.cell (by omega),h2 i hi];rfl
def qpr (n:Nat) (y x:Nat->SE):Prop:=(∀ i,i<n -> ∃ j,j<n/\y i=x j) /\ ∀ j,j<n -> ∃ i,i<n/\y i=x j
theorem qpr.refl (n:Nat) (y:Nat->SE):qpr n y y:=⟨fun i hi=>⟨i,hi,rfl⟩,fun i hi=>⟨i,hi,rfl⟩⟩
def qxF (T:List Tm->Prop) (n:Nat):Prop:=∀ (M:Nat->Prop) (w:World) (g cap:Nat) (y:Nat->SE),Mb M w->M g->n<=cap->qt8 M w g cap n y->(∀ i,i<n->T (y i).l) ->
 Calls Tryz.prog 111 #[.slice (some ⟨g,0,none⟩) n cap,.func (.func 112) #[] #[]] w fun e w'=>e = .returned (.tuple #[]) /\
  ∃ y',qt8 M w' g cap n y'/\qpr n y' y/\(∀ i j,i<j->j<n->qfL (norm (y' i).l) (norm (y' j).l)<=0)/\w.grownBy w' (some g)
def SC2 (g:Nat) (x y:SE) (w:World):Prop:=w.cell? ⟨g,0,none⟩=some (.slice x.a x.n x.p)/\w.cell? ⟨g,1,none⟩=some (.slice y.a y.n y.p)
theorem SC2.ext {g:Nat} {x y:SE} {w w':World} (h:SC2 g x y w) (he:Ext w w'):SC2 g x y w':=by
 have hb:=World.block_lt_of_cell? _ _ h.1;unfold SC2;rw [he.cell hb,he.cell hb];exact h
def qy2 (M:Nat->Prop) (g cap n:Nat) (y:Nat->SE) (w:World) (e:Ending) (w':World):Prop:=e = .returned (.tuple #[])/\Ext w w'


def ltT (s t:Tm):Prop:=Mo.lt s.2 t.2∨(s.2=t.2/\s.1<t.1)
theorem qio (s t:Tm):qpc s t<0↔ltT s t:=by
 unfold qpc ltT
 by_cases h:s.2=t.2
 ·rw [if_pos h];have hn : ¬ Mo.lt s.2 t.2:=fun hl=>Mo.lt_ne hl h;unfold qdA
  by_cases h1:s.1<t.1
  ·rw [if_pos h1];exact ⟨fun _=>.inr ⟨h,h1⟩,fun _=>by omega⟩
  ·rw [if_neg h1];constructor
   ·intro h2;split at h2 <;> omega
   ·rintro (h2 | h2)
    ·exact absurd h2 hn
    ·exact absurd h2.2 h1
 ·rw [if_neg h,qd0];exact ⟨.inl,fun h2=>h2.elim id fun h3=>absurd h3.1 h⟩
theorem qoe {a b c:Tm} (h:ltT a b) (k:ltT b c):ltT a c:=by
 unfold ltT at *;rcases h with h | ⟨h1,h2⟩ <;> rcases k with k | ⟨k1,k2⟩
 ·exact .inl (Mo.lt_trans h k)
 ·rw [<- k1];exact .inl h
 ·rw [h1];exact .inl k
 ·exact .inr ⟨h1.trans k1,by omega⟩
theorem qfq : ∀ {a b c:List Tm},qfL a b<0->qfL b c<0->qfL a c<0
 | [],[],_,h,_=>by simp [qfL] at h
 | [],_ :: _,[],_,k=>by simp [qfL] at k
 | [],_ :: _,_ :: _,_,_=>by simp [qfL]
 | _ :: _,[],_,h,_=>by simp [qfL] at h
 | _ :: _,_ :: _,[],_,k=>by simp [qfL] at k
 | s :: a,t :: b,u :: c,h,k=>by
  simp only [qfL] at h k ⊢
  by_cases h0:qpc s t=0
  ·obtain rfl:=(qe4 s t).1 h0;rw [if_pos h0] at h
   by_cases k0:qpc s u=0
   ·rw [if_pos k0] at k ⊢;exact qfq h k
   ·rw [if_neg k0] at k ⊢;exact k
  ·rw [if_neg h0] at h;have hs:=(qio s t).1 h
   by_cases k0:qpc t u=0
   ·obtain rfl:=(qe4 t u).1 k0;rw [if_neg h0];exact h
   ·rw [if_neg k0] at k;have hk:=qoe hs ((qio t u).1 k);have hn:qpc s u<0:=(qio s u).2 hk;rw [if_neg (by omega)];exact hn
def quf (N:Nat) (P:Nat->List Tm) (c:Nat) (F:Nat->List Tm):Prop:=
 (∀ i,i<c -> ∃ j,j<N/\F i=snorm (P j)/\lvM ((F i).map (·.2))≠0)/\(∀ j,j<N->lvM ((snorm (P j)).map (·.2))≠0 -> ∃ i,i<c/\F i=snorm (P j)) /\ ∀ i j,i<j->j<c->qfL (F i) (F j)<0
def NrL (P:Nat->List Tm) (k c:Nat) (y:Nat->SE):Prop:=
 (∀ i,i<c -> ∃ j,j<k/\(y i).l=snorm (P j)/\lvM (((y i).l).map (·.2))≠0) /\ ∀ j,j<k->lvM ((snorm (P j)).map (·.2))≠0 -> ∃ i,i<c/\(y i).l=snorm (P j)
theorem NrL.start (P:Nat->List Tm) (y:Nat->SE):NrL P 0 0 y:=⟨fun i hi=>absurd hi (Nat.not_lt_zero _),fun i hi=>absurd hi (Nat.not_lt_zero _)⟩
theorem NrL.skip {P:Nat->List Tm} {k c:Nat} {y:Nat->SE} (h:NrL P k c y) (h0:lvM ((snorm (P k)).map (·.2))=0):NrL P (k+1) c y:=by
 refine ⟨fun i hi=>?_,fun j hj hl=>?_⟩
 ·obtain ⟨j,hj,hr⟩:=h.1 i hi;exact ⟨j,by omega,hr⟩
 ·by_cases hk:j=k
  ·subst hk;exact absurd h0 hl
  ·exact h.2 j (by omega) hl
theorem NrL.take {P:Nat->List Tm} {k c:Nat} {y:Nat->SE} (h:NrL P k c y) {z:SE} (hz:z.l=snorm (P k)) (h0:lvM ((snorm (P k)).map (·.2))≠0):NrL P (k+1) (c+1) (qcp y c z):=by
 refine ⟨fun i hi=>?_,fun j hj hl=>?_⟩
 ·by_cases hic:i=c
  ·subst hic;rw [qaL];exact ⟨k,by omega,hz,by rw [hz];exact h0⟩
  ·rw [qaQ _ _ _ _ (by omega)];obtain ⟨j,hj,hr⟩:=h.1 i (by omega);exact ⟨j,by omega,hr⟩
 ·by_cases hk:j=k
  ·subst hk;exact ⟨c,by omega,by rw [qaL];exact hz⟩
  ·obtain ⟨i,hi,hr⟩:=h.2 j (by omega) hl;exact ⟨i,by omega,by rw [qaQ _ _ _ _ hi];exact hr⟩
def DdL (y:Nat->SE) (k m:Nat) (F:Nat->List Tm):Prop:=
 (∀ i,i<m -> ∃ j,j<k/\F i=(y j).l)/\(∀ j,j<k -> ∃ i,i<m/\F i=(y j).l)/\(∀ i j,i<j->j<m->qfL (F i) (F j)<0)/\(0<k->0<m/\F (m - 1)=(y (k - 1)).l)/\m<=k
theorem DdL.start (y:Nat->SE) (F:Nat->List Tm):DdL y 0 0 F:=⟨fun i hi=>absurd hi (Nat.not_lt_zero _),fun i hi=>absurd hi (Nat.not_lt_zero _),fun i j _ hj=>absurd hj (Nat.not_lt_zero _),fun h=>absurd h (Nat.not_lt_zero _),Nat.le_refl _⟩
theorem DdL.skip {y:Nat->SE} {k m:Nat} {F:Nat->List Tm} (h:DdL y k m F) (hk:0<k) (he:(y (k - 1)).l=(y k).l):DdL y (k+1) m F:=by
 obtain ⟨h1,h2,h3,h4,h5⟩:=h;refine ⟨fun i hi=>?_,fun j hj=>?_,h3,fun _=>⟨(h4 hk).1,?_⟩,by omega⟩
 ·obtain ⟨j,hj,hr⟩:=h1 i hi;exact ⟨j,by omega,hr⟩
 ·by_cases hjk:j=k
  ·subst hjk;exact ⟨m - 1,by have:=(h4 hk).1;omega,(h4 hk).2.trans he⟩
  ·exact h2 j (by omega)
 ·rw [Nat.add_sub_cancel,<- he];exact (h4 hk).2
theorem DdL.take {y:Nat->SE} {k m n:Nat} {F:Nat->List Tm} (h:DdL y k m F) (hkn:k<n) (hs : ∀ i j,i<j->j<n->qfL (y i).l (y j).l<=0) (hne:0<k->(y (k - 1)).l≠(y k).l):DdL y (k+1) (m+1) (qcp F m (y k).l):=by
 obtain ⟨h1,h2,h3,h4,h5⟩:=h;refine ⟨fun i hi=>?_,fun j hj=>?_,fun i j hij hj=>?_,fun _=>⟨by omega,?_⟩,by omega⟩
 ·by_cases him:i=m
  ·subst him;rw [qaL];exact ⟨k,by omega,rfl⟩
  ·rw [qaQ _ _ _ _ (by omega)];obtain ⟨j,hj,hr⟩:=h1 i (by omega);exact ⟨j,by omega,hr⟩
 ·by_cases hjk:j=k
  ·subst hjk;exact ⟨m,by omega,qaL _ _ _⟩
  ·obtain ⟨i,hi,hr⟩:=h2 j (by omega);exact ⟨i,by omega,by rw [qaQ _ _ _ _ hi];exact hr⟩
 ·by_cases hjm:j=m
  ·subst hjm;rw [qaL,qaQ _ _ _ _ hij]
   have hk:0<k:=by omega
   have hl:qfL (y (k - 1)).l (y k).l<0:=by
    have e1:=hs (k - 1) k (by omega) hkn;have e2:qfL (y (k - 1)).l (y k).l≠0:=fun e=>hne hk ((qpd _ _).1 e);omega
   by_cases hi1:i=j - 1
   ·subst hi1;rw [(h4 hk).2];exact hl
   ·refine qfq (h3 i (j - 1) (by omega) (by omega)) ?_;rw [(h4 hk).2];exact hl
  ·rw [qaQ _ _ _ _ (by omega),qaQ _ _ _ _ (by omega)];exact h3 i j hij (by omega)
 ·rw [Nat.add_sub_cancel,Nat.add_sub_cancel,qaL]
theorem quf.sim {N c:Nat} {P Q:Nat->List Tm} {F:Nat->List Tm} (h:quf N P c F) (hs : ∀ j,j<N->snorm (P j)=snorm (Q j)):quf N Q c F:=by
 refine ⟨fun i hi=>?_,fun j hj hl=>?_,h.2.2⟩
 ·obtain ⟨j,hj,e1,e2⟩:=h.1 i hi;exact ⟨j,hj,by rw [<- hs j hj];exact e1,e2⟩
 ·rw [<- hs j hj] at hl ⊢;exact h.2.1 j hj hl


theorem Tryz.info71:(Tryz.prog.info? 71).map (fun i=>(i.zero,i.size,i.bytes))=some (some (.slice none 0 0),1,24):=by kernel_rfl
theorem qcf {M:Nat->Prop} {wa wb:World} {v:Value} {gg:Nat} {x:PE} {l:List Tm} {n cap:Nat} (hP:CRx (MR M v) wa 4 x l) (hg:wa.grownBy wb v.ownBlock) (hat:v.ownBlock=some gg∨wa.heap.size<=gg):CRx (MR M (.slice (some ⟨gg,0,none⟩) n cap)) wb 4 x l:=by
 have h1:=hP.more (M':=fun b=>MR M v b∨b=gg) (fun b hb=>hb.elim .inl fun e=>by
  rcases hat with h | h
  ·exact .inl (.inr (by rw [h,e]))
  ·exact .inr (by omega))
 have h2:=h1.kp (Kp.grown hg fun k hk=>.inl (.inr hk));exact h2.more fun b hb=>.inl (hb.elim (fun h=>.inl (.inl h)) fun h=>.inr (by simp only [Value.ownBlock,Option.some.injEq] at h;exact h.symm))
def qys (M:Nat->Prop) (w:World) (N:Nat) (P:Nat->List Tm) (e:Ending) (w':World):Prop:=∃ (a:Option Addr) (c p:Nat) (F:Nat->List Tm),e = .returned (.slice a c p)/\qa7 M w' 4 (.slice a c p) c F/\quf N P c F/\Ext w w'


def f23:List Tm:=[(1,⟨1,1,0,0⟩),(3,⟨0,0,0,0⟩)]
theorem qaz.cel {M:Nat->Prop} {w:World} {D g N:Nat} {P:Nat->List Tm} (h:qaz M w D g N P) (i:Nat) (hi:i<N) : ∃ y:PE,qaI w g (i*4) y/\CRx M w D y (P i):=by
 obtain ⟨f,hB,hc⟩:=h;obtain ⟨x,e0,e1,e2,e3,hx,_⟩:=(hc i hi).pe;refine ⟨x,⟨?_,?_,?_,?_⟩,hx⟩
 ·rw [hB.cell (by omega),e0]
 ·rw [hB.cell (by omega),e1]
 ·rw [hB.cell (by omega),e2]
 ·rw [hB.cell (by omega),e3]
theorem qaz.lt {M:Nat->Prop} {w:World} {D g N:Nat} {P:Nat->List Tm} (h:qaz M w D g N P):g<w.heap.size:=by
 obtain ⟨f,hB,_⟩:=h;exact hB.lt
def S23 (g b:Nat) (z p:PE) (w:World):Prop:=qaI w g 4 z/\P4 w b p
theorem S23.ext {g b:Nat} {z p:PE} {w w':World} (h:S23 g b z p w) (he:Ext w w'):S23 g b z p w':=⟨h.1.ext (World.block_lt_of_cell? _ _ h.1.1) he,h.2.ext he⟩
end Go.Proofs.YtmcfpnmoklnhoaaGreat
