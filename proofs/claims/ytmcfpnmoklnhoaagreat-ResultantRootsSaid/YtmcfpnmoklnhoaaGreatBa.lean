/- Plain facts on division: the coefficient of a power of one variable; degrees of products. -/
import Derived.Test.YtmcfpnmoklnhoaaGreatAb
set_option linter.unusedVariables false
set_option linter.unusedSimpArgs false

namespace Go.Proofs.YtmcfpnmoklnhoaaGreat

def NN (l:List Tm):Prop:=∀ m:Mo,m.nn=false->qab l m=0
theorem NN.sim {l r:List Tm} (h:NN l) (hs:Sim l r):NN r:=fun m hm=>by rw [<- hs m];exact h m hm
theorem qaT {l:List Tm} (h : ∀ t ∈ l,t.2.nn=true):NN l:=fun m hm=>qaB fun t ht e=>by rw [<- e,h t ht] at hm;cases hm
theorem qaW (l:List Tm) : ∀ t ∈ norm l,t.2.nn=true:=fun t ht=>((qaH l).2 t ht).2
def ckF (k:Nat) (e:Int) (m:Mo):Int × Mo:=(if m.get k=e then 1 else 0,wo k m)
def ck (k:Nat) (e:Int) (l:List Tm):List Tm:=lin (ckF k e) l
theorem qa0 {k:Nat} {e:Int} {l r:List Tm} (h:Sim l r):Sim (ck k e l) (ck k e r):=h.lin _
theorem qe0 {k:Nat} (h1:1<=k) (h4:k<=4) (m:Mo):Mo.add (wo k m) (xp k (m.get k))=m:=Mo.ext_get fun j _ _=>by
 rw [qas,qfr h1 h4,qat k j _ h1 h4]
 split
 ·rename_i h;subst h;omega
 ·omega
theorem qaQ {k:Nat} (h1:1<=k) (h4:k<=4) (e:Int) (m:Mo) : ∀ l:List Tm,qab (ck k e l) m=if m.get k=0 then qab l (Mo.add m (xp k e)) else 0
 | []=>by simp [ck,lin,qab]
 | t :: l=>by
  have ih:=qaQ h1 h4 e m l;show (if wo k t.2=m then t.1*(if t.2.get k=e then 1 else 0) else 0)+qab (ck k e l) m=_;rw [ih]
  by_cases hm:m.get k=0
  ·rw [if_pos hm,if_pos hm];show _=(if t.2=Mo.add m (xp k e) then t.1 else 0)+_
   congr 1
   by_cases ht:t.2=Mo.add m (xp k e)
   ·have hg:t.2.get k=e:=by rw [ht,qas,hm,qat k k _ h1 h4,if_pos rfl];omega
    have hw:wo k t.2=m:=by
     have:=qe0 h1 h4 t.2;rw [hg] at this;have h5:=(Mo.add_eq _ _ _).1 (this.trans ht);rw [h5];exact ((Mo.add_eq _ _ _).1 rfl).symm
    rw [if_pos hw,if_pos hg,if_pos ht,Int.mul_one]
   ·rw [if_neg ht]
    by_cases hw:wo k t.2=m
    ·rw [if_pos hw,if_neg,Int.mul_zero];intro hg;exact ht (by rw [<- qe0 h1 h4 t.2,hw,hg])
    ·rw [if_neg hw]
  ·rw [if_neg hm,if_neg hm,if_neg]
   ·rfl
   ·intro hw;exact hm (by rw [<- hw,qfr h1 h4,if_pos rfl])
theorem qg7 {k:Nat} (h1:1<=k) (h4:k<=4) {l:List Tm} {m:Mo} (h:qab l m≠0) : ¬ Sim (ck k (m.get k) l) []:=fun hs=>by
 have:=hs (wo k m);rw [qaQ h1 h4,if_pos (by rw [qfr h1 h4,if_pos rfl]),qe0 h1 h4] at this;exact h this
theorem qoT {k:Nat} (h1:1<=k) (h4:k<=4) {e:Int} {l:List Tm} (h : ¬ Sim (ck k e l) []) : ∃ m,qab l m≠0/\m.get k=e:=by
 obtain ⟨m,hm⟩:=qbM h;rw [qaQ h1 h4] at hm
 split at hm
 ·rename_i h0;exact ⟨_,hm,by rw [qas,h0,qat k k _ h1 h4,if_pos rfl];omega⟩
 ·exact absurd rfl hm
theorem qb2 {k:Nat} (h1:1<=k) (h4:k<=4) {e:Int} {l:List Tm} (h:NN l):NN (ck k e l):=fun m hm=>by
 rw [qaQ h1 h4]
 split
 ·rename_i h0;refine h _ ?_
  cases hc:(Mo.add m (xp k e)).nn with
  | false=>rfl
  | true=>
   rw [Mo.nn_iff] at hc
   have:m.nn=true:=by
    rw [Mo.nn_iff];have g1:(Mo.add m (xp k e)).a=m.a+(if k=1 then e else 0):=rfl;have g2:(Mo.add m (xp k e)).b=m.b+(if k=2 then e else 0):=rfl;have g3:(Mo.add m (xp k e)).c=m.c+(if k=3 then e else 0):=rfl;have g4:(Mo.add m (xp k e)).d=m.d+(if k=4 then e else 0):=rfl;rw [g1,g2,g3,g4] at hc;rcases qcz h1 h4 with rfl | rfl | rfl | rfl <;> simp [Mo.get] at h0 hc ⊢ <;> omega
   rw [hm] at this;cases this
 ·rfl
theorem qbv {D N:Nat} {P:Nat->List Tm} (hD:D+1<=4) (hlow : ∀ i,i<N->Low D (P i)) (e:Nat):Sim (ck (D+1) (e:Int) (poly (D+1) N P)) (if e<N then P e else []):=fun m=>by
 rw [qaQ (by omega) hD]
 by_cases hm:m.get (D+1)=0
 ·rw [if_pos hm,qbI (D+1) N P (by omega) hD hlow _ e (by rw [qas,hm,qat _ _ _ (by omega) hD,if_pos rfl];omega)]
  by_cases he:e<N
  ·rw [if_pos he,if_pos he,<- (Mo.add_eq m _ _).1 rfl]
  ·rw [if_neg he,if_neg he];rfl
 ·rw [if_neg hm]
  by_cases he:e<N
  ·rw [if_pos he];exact ((hlow e he).coef (k:=D+1) (by omega) hD hm).symm
  ·rw [if_neg he];rfl
theorem qll {k:Nat} (h1:1<=k) (h4:k<=4) (x y:Mo):wo k (Mo.add x y)=Mo.add (wo k x) (wo k y):=Mo.ext_get fun j _ _=>by
 rw [qfr h1 h4,qas,qas,qfr h1 h4,qfr h1 h4]
 split <;> omega
theorem qrJ {k:Nat} (h1:1<=k) (h4:k<=4) {x:Mo} (h:x.get k=0):wo k x=x:=Mo.ext_get fun j _ _=>by
 rw [qfr h1 h4]
 split
 ·rename_i hj;subst hj;omega
 ·rfl
theorem qg6 {k:Nat} (h1:1<=k) (h4:k<=4) {e e':Int} {g:List Tm} (hg : ∀ t ∈ g,t.2.get k<=e') : ∀ q:List Tm,(∀ s ∈ q,s.2.get k<=e)->ck k (e+e') (pmul q g)=pmul (ck k e q) (ck k e' g)
 | [],_=>rfl
 | s :: q,h=>by
  have ih:=qg6 h1 h4 hg q fun t ht=>h t (List.mem_cons_of_mem _ ht);have hs:=h s List.mem_cons_self;show ck k (e+e') (shift s.2 (smul s.1 g) ++ pmul q g)=shift (wo k s.2) (smul (s.1*(if s.2.get k=e then 1 else 0)) (ck k e' g)) ++ pmul (ck k e q) (ck k e' g);rw [<- ih];unfold ck;rw [qcy]
  congr 1
  unfold lin shift smul;rw [List.map_map,List.map_map,List.map_map,List.map_map];apply List.map_congr_left;intro t ht;have h2:=hg t ht;simp only [Function.comp_def,ckF,qas,qll h1 h4]
  congr 1
  by_cases a1:s.2.get k=e
  ·by_cases a2:t.2.get k=e'
   ·rw [if_pos (by omega),if_pos a1,if_pos a2];simp
   ·rw [if_neg (by omega),if_neg a2];simp
  ·rw [if_neg (by omega),if_neg a1];simp
theorem qg5 {k:Nat} (h1:1<=k) (h4:k<=4) {e:Int} {g:List Tm} (hg : ∀ t ∈ g,t.2.get k=0) : ∀ q:List Tm,ck k e (pmul q g)=pmul (ck k e q) g
 | []=>rfl
 | s :: q=>by
  have ih:=qg5 h1 h4 (e:=e) hg q;show ck k e (shift s.2 (smul s.1 g) ++ pmul q g)=shift (wo k s.2) (smul (s.1*(if s.2.get k=e then 1 else 0)) g) ++ pmul (ck k e q) g;rw [<- ih];unfold ck;rw [qcy]
  congr 1
  unfold lin shift smul;rw [List.map_map,List.map_map,List.map_map];apply List.map_congr_left;intro t ht;have h2:=hg t ht;simp only [Function.comp_def,ckF,qas,qll h1 h4,qrJ h1 h4 h2,h2]
  congr 1
  by_cases a1:s.2.get k=e
  ·rw [if_pos (by omega),if_pos a1];simp
  ·rw [if_neg (by omega),if_neg a1];simp
theorem qgF (k:Nat) : ∀ {l:List Tm},(∀ t ∈ l,t.2.nn=true) -> ∃ e:Nat,(∀ s ∈ l,s.2.get k<=e)/\(l = [] ∨ ∃ s ∈ l,s.2.get k=e)
 | [],_=>⟨0,fun s hs=>(by cases hs),.inl rfl⟩
 | t :: l,h=>by
  obtain ⟨e,h1,h2⟩:=qgF k fun s hs=>h s (List.mem_cons_of_mem _ hs);have h0:=qcw (h t List.mem_cons_self) k
  by_cases hc:t.2.get k<=e/\l ≠ []
  ·refine ⟨e,fun s hs=>?_,.inr ?_⟩
   ·rcases List.mem_cons.1 hs with rfl | hs
    ·exact hc.1
    ·exact h1 s hs
   ·obtain ⟨s,hs,he⟩:=h2.resolve_left hc.2;exact ⟨s,List.mem_cons_of_mem _ hs,he⟩
  ·refine ⟨(t.2.get k).toNat,fun s hs=>?_,.inr ⟨t,List.mem_cons_self,by omega⟩⟩;rcases List.mem_cons.1 hs with rfl | hs
   ·omega
   ·by_cases hl:l = []
    ·rw [hl] at hs;cases hs
    ·have:=h1 s hs;have : ¬ t.2.get k<=e:=fun hx=>hc ⟨hx,hl⟩;omega
theorem qa1 : ∀ {l:List Tm},qbk l -> ∀ {t:Tm},t ∈ l->qab l t.2≠0
 | s :: l,h,t,ht=>by
  rcases List.mem_cons.1 ht with rfl | ht
  ·rw [h.coef_head];exact (h.2 t List.mem_cons_self).1
  ·have h1:=qa1 h.tail ht;have h2:=Mo.lt_ne (h.head t ht);simp only [qab];rw [if_neg (fun e=>h2 e.symm),Int.zero_add];exact h1
theorem qi7 {k:Nat} (h1:1<=k) (h4:k<=4) {q g:List Tm} {n:Nat} (hq:NN q) (hz : ¬ Sim q []) (hg:NN g) (hn : ∀ t ∈ g,t.2.get k<=n) (ht : ¬ Sim (ck k (n:Int) g) []) : ∃ e:Nat,(∀ s ∈ norm q,s.2.get k<=e) /\ ¬ Sim (ck k ((e+n:Nat):Int) (pmul q g)) []:=by
 obtain ⟨e,he,hx⟩:=qgF k (qaW q);have hs:=qam hq;have hne:norm q ≠ []:=fun h=>hz (by rw [h] at hs;exact hs.symm);obtain ⟨s,hsm,hse⟩:=hx.resolve_left hne;have hc:qab (norm q) s.2≠0:=qa1 (qaH q) hsm;have h5:=qg7 h1 h4 hc;rw [hse] at h5;refine ⟨e,he,fun hh=>?_⟩;have h6:=qg6 h1 h4 (e:=(e:Int)) (e':=(n:Int)) hn (norm q) he
 have h7:Sim (ck k ((e+n:Nat):Int) (pmul q g)) (pmul (ck k e (norm q)) (ck k n g)):=by
  rw [<- h6];exact qa0 (hs.symm.pmul_left g)
 exact qdt (qb2 h1 h4 (qaT (qaW q))) (qb2 h1 h4 hg) h5 ht (h7.symm.trans hh)
theorem qrQ {k:Nat} (h1:1<=k) (h4:k<=4) {g:List Tm} (hg:NN g) (hz : ¬ Sim g []) : ∃ n:Nat,(∀ t ∈ norm g,t.2.get k<=n) /\ ¬ Sim (ck k (n:Int) (norm g)) []:=by
 obtain ⟨e,he,hx⟩:=qgF k (qaW g);have hs:=qam hg;obtain ⟨s,hsm,hse⟩:=hx.resolve_left fun h=>hz (by rw [h] at hs;exact hs.symm);have hc:qab (norm g) s.2≠0:=qa1 (qaH g) hsm;have h5:=qg7 h1 h4 hc;rw [hse] at h5;exact ⟨e,he,h5⟩
theorem qdf {q g l:List Tm} {B:Nat} (hq:NN q) (hg:NN g) (hz : ¬ Sim g []) (h:Sim (pmul q g) l) (hB:Deg B l):Deg B q:=fun m hm k=>by
 by_cases hk:1<=k/\k<=4
 ·obtain ⟨n,hn,ht⟩:=qrQ hk.1 hk.2 hg hz;have hzq : ¬ Sim q []:=fun hs=>hm (hs m);obtain ⟨e,he,hc⟩:=qi7 hk.1 hk.2 hq hzq (qaT (qaW g)) hn ht;have h5:Sim (pmul q (norm g)) l:=((qam hg).pmul_right q).trans h;obtain ⟨m',hm',hg'⟩:=qoT hk.1 hk.2 (fun hs=>hc ((qa0 h5).trans hs));have h6:=hB m' hm' k;rw [<- (qam hq) m] at hm;obtain ⟨s,hs,e2⟩ : ∃ s ∈ norm q,s.2=m:=Classical.byContradiction fun hcc=>hm (qaB fun t ht e=>hcc ⟨t,ht,e⟩);have h7:=he s hs;rw [e2] at h7;omega
 ·have : m.get k = 0 := by
   unfold Mo.get;rw [if_neg (by omega),if_neg (by omega),if_neg (by omega),if_neg (by omega)]
  omega
def Dv (r l:List Tm):Prop:=∃ q,NN q/\Sim (pmul q r) l
theorem qgx {D N:Nat} {P:Nat->List Tm} (hD:D+1<=4) (hlow : ∀ i,i<N->Low D (P i)) : ∀ t ∈ poly (D+1) N P,∃ i,i<N/\t.2.get (D+1)=(i:Int):=fun t ht=>by
 obtain ⟨i,hi,s,hs,rfl⟩:=qck ht;refine ⟨i,hi,?_⟩;show (Mo.add s.2 (xp (D+1) (i:Int))).get (D+1)=i;rw [qas,hlow i hi s hs (D+1) (by omega) hD,qat _ _ _ (by omega) hD,if_pos rfl];omega
section
variable {D n:Nat} {G:Nat->List Tm}
theorem qqV (hD:D+1<=4) (hG : ∀ i,i<n+1->Low D (G i)) (hz : ¬ Sim (G n) []) (hN:NN (poly (D+1) (n+1) G)) {h:List Tm} (hh:NN h) {R:Nat->List Tm} {k:Nat} (hR : ∀ i,i<n+k+1->Low D (R i)) (hs:Sim (pmul h (poly (D+1) (n+1) G)) (poly (D+1) (n+k+1) R)):Dv (G n) (R (n+k)):=by
 have hgt : ∀ t ∈ poly (D+1) (n+1) G,t.2.get (D+1)<=(n:Int):=fun t ht=>by
  obtain ⟨i,hi,e⟩:=qgx hD hG t ht;omega
 have hcg:=qbv hD hG n;rw [if_pos (by omega)] at hcg
 have hle : ∀ s ∈ norm h,s.2.get (D+1)<=(k:Int):=by
  by_cases hzh:Sim h []
  ·have:norm h = []:=hzh.norm;rw [this];intro s hs;cases hs
  ·obtain ⟨e,he,hc⟩:=qi7 (by omega) hD hh hzh hN hgt (fun hx=>hz (hcg.symm.trans hx));have h5:=qbv hD hR (e+n)
   have hlt:e+n<n+k+1:=by
    refine Classical.byContradiction fun hc2=>hc ?_;rw [if_neg hc2] at h5;exact (qa0 hs).trans h5
   intro s hs';have:=he s hs';omega
 have h6:=qg6 (by omega) hD (e:=(k:Int)) (e':=(n:Int)) hgt (norm h) hle;have h7:=qbv hD hR (n+k);rw [if_pos (by omega)] at h7;refine ⟨ck (D+1) k (norm h),qb2 (by omega) hD (qaT (qaW h)),?_⟩;refine (hcg.symm.pmul_right _).trans ?_;rw [<- h6,show (k:Int)+(n:Int)=((n+k:Nat):Int) by omega];exact (qa0 (((qam hh).pmul_left _).trans hs)).trans h7
theorem qmV (hD:D+1<=4) (hG : ∀ i,i<n+1->Low D (G i)) (hz : ¬ Sim (G n) []) (hN:NN (poly (D+1) (n+1) G)) {h:List Tm} (hh:NN h) {R:Nat->List Tm} {N:Nat} (hNn:N<=n) (hR : ∀ i,i<N->Low D (R i)) (hs:Sim (pmul h (poly (D+1) (n+1) G)) (poly (D+1) N R)):Sim (poly (D+1) N R) []:=by
 by_cases hzh:Sim h []
 ·exact hs.symm.trans (hzh.pmul_left _)
 ·exfalso
  have hgt : ∀ t ∈ poly (D+1) (n+1) G,t.2.get (D+1)<=(n:Int):=fun t ht=>by
   obtain ⟨i,hi,e⟩:=qgx hD hG t ht;omega
  have hcg:=qbv hD hG n;rw [if_pos (by omega)] at hcg;obtain ⟨e,he,hc⟩:=qi7 (by omega) hD hh hzh hN hgt (fun hx=>hz (hcg.symm.trans hx));have h5:=qbv hD hR (e+n);rw [if_neg (by omega)] at h5;exact hc ((qa0 hs).trans h5)
theorem qpD (hD:D+1<=4) (hn:1<=n) (hG : ∀ i,i<n+1->Low D (G i)) (hz : ¬ Sim (G n) []) (hN:NN (poly (D+1) (n+1) G)) {l:List Tm} (hl : ∀ t ∈ l,t.2.get (D+1)=0) (hlz : ¬ Sim l []) : ¬ Dv (poly (D+1) (n+1) G) l:=by
 rintro ⟨q,hq,hs⟩;have hzq : ¬ Sim q []:=fun hx=>hlz (hs.symm.trans (hx.pmul_left _))
 have hgt : ∀ t ∈ poly (D+1) (n+1) G,t.2.get (D+1)<=(n:Int):=fun t ht=>by
  obtain ⟨i,hi,e⟩:=qgx hD hG t ht;omega
 have hcg:=qbv hD hG n;rw [if_pos (by omega)] at hcg;obtain ⟨e,he,hc⟩:=qi7 (by omega) hD hq hzq hN hgt (fun hx=>hz (hcg.symm.trans hx));obtain ⟨m,hm,hmg⟩:=qoT (by omega) hD (fun hx=>hc ((qa0 hs).trans hx));obtain ⟨t,ht,rfl⟩ : ∃ t ∈ l,t.2=m:=Classical.byContradiction fun hcc=>hm (qaB fun t ht e=>hcc ⟨t,ht,e⟩);rw [hl t ht] at hmg;omega
end
theorem qpE {D N:Nat} (hD:D+1<=4) {F:Nat->List Tm} (hF : ∀ i,i<N->Low D (F i)) {g:List Tm} (hg : ∀ t ∈ g,t.2.get (D+1)=0) (h:Dv g (poly (D+1) N F)) (i:Nat) (hi:i<N):Dv g (F i):=by
 obtain ⟨q,hq,hs⟩:=h;refine ⟨ck (D+1) (i:Int) q,qb2 (by omega) hD hq,?_⟩;rw [<- qg5 (by omega) hD hg];have h7:=qbv hD hF i;rw [if_pos hi] at h7;exact (qa0 hs).trans h7
theorem Dv.sim {r r' l l':List Tm} (h:Dv r l) (hr:Sim r r') (hl:Sim l l'):Dv r' l':=by
 obtain ⟨q,hq,hs⟩:=h;exact ⟨q,hq,(hr.symm.pmul_right q).trans (hs.trans hl)⟩
theorem qeO {y z:Int} (hz:z≠0):Dv [(z,Mo.zero)] [(y,Mo.zero)]↔y.tmod z=0:=by
 constructor
 ·rintro ⟨q,hq,hs⟩;have h1:=hs Mo.zero;have h2:=qbi q (z,Mo.zero) Mo.zero;rw [qbl,qao] at h2;rw [h2] at h1;simp only [qab,if_true,Int.add_zero] at h1;exact Int.tmod_eq_zero_of_dvd ⟨_,h1.symm⟩
 ·intro h;have hd:=Int.dvd_of_tmod_eq_zero h;refine ⟨[(y.tdiv z,Mo.zero)],qaT fun t ht=>by simp only [List.mem_singleton] at ht;subst ht;rfl,fun m=>?_⟩;have:=Int.tdiv_mul_cancel hd;simp [pmul,shift,smul,qab,Mo.add_zero',this]
end Go.Proofs.YtmcfpnmoklnhoaaGreat
