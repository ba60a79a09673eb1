/- Ba -/
import Derived.Test.YtmcfpnmoklnhoaaGreatAb
set_option linter.unusedVariables false
set_option linter.unusedSimpArgs false
namespace Go.Proofs.YtmcfpnmoklnhoaaGreat
def NN(l:List Tm):Prop:=∀m:Mo,m.nn=false->aB l m=0
theorem NN.bZ{l r:List Tm}(h:NN l)(hs:ae l r):NN r:=λm hm=>by rw[<-hs m];exact h m hm
theorem Aq{l:List Tm}(h:∀t∈l,t.2.nn=true):NN l:=λm hm=>qh λt ht e=>by rw[<-e,h t ht]at hm;cases hm
theorem Br(l:List Tm):∀t∈norm l,t.2.nn=true:=λt ht=>((qZ l).2 t ht).2
def K7(k:Nat)(e:Int)(m:Mo):Int × Mo:=(if m.get k=e then 1 else 0,wo k m)
def ck(k:Nat)(e:Int)(l:List Tm):List Tm:=lD (K7 k e) l
theorem gV{k:Nat}{e:Int}{l r:List Tm}(h:ae l r):ae (ck k e l) (ck k e r):=h.lD _
theorem qdG{k:Nat}(h1:1<=k)(h4:k<=4)(m:Mo):Mo.add (wo k m) (xp k (m.get k))=m:=Mo.ext_get λj _ _=>by
 rw[gL,IW h1 h4,dX k j _ h1 h4]
 split
 ·rename_i h;subst h;omega
 ·omega
theorem mE{k:Nat}(h1:1<=k)(h4:k<=4)(e:Int)(m:Mo):∀l:List Tm,aB (ck k e l) m=if m.get k=0 then aB l (Mo.add m (xp k e))else 0
 |[]=>by simp[ck,lD,aB]
 |t::l=>by
  have ih:=mE h1 h4 e m l;show(if wo k t.2=m then t.1*(if t.2.get k=e then 1 else 0)else 0)+aB (ck k e l) m=_;rw[ih]
  by_cases hm:m.get k=0
  ·rw[if_pos hm,if_pos hm];show _=(if t.2=Mo.add m (xp k e)then t.1 else 0)+_
   congr 1
   by_cases ht:t.2=Mo.add m (xp k e)
   ·have hg:t.2.get k=e:=by rw[ht,gL,hm,dX k k _ h1 h4,if_pos rfl];omega
    have hw:wo k t.2=m:=by
     have:=qdG h1 h4 t.2;rw[hg]at this;have h5:=(Mo.add_eq _ _ _).1 (this.trans ht);rw[h5];exact((Mo.add_eq _ _ _).1 rfl).symm
    rw[if_pos hw,if_pos hg,if_pos ht,Int.mul_one]
   ·rw[if_neg ht]
    by_cases hw:wo k t.2=m
    ·rw[if_pos hw,if_neg,Int.mul_zero];intro hg;exact ht (by rw[<-qdG h1 h4 t.2,hw,hg])
    ·rw[if_neg hw]
  ·rw[if_neg hm,if_neg hm,if_neg]
   ·rfl
   ·intro hw;exact hm (by rw[<-hw,IW h1 h4,if_pos rfl])
theorem DT{k:Nat}(h1:1<=k)(h4:k<=4){l:List Tm}{m:Mo}(h:aB l m≠0):¬ae (ck k (m.get k) l) []:=λhs=>by
 have:=hs (wo k m);rw[mE h1 h4,if_pos (by rw[IW h1 h4,if_pos rfl]),qdG h1 h4]at this;exact h this
theorem TS{k:Nat}(h1:1<=k)(h4:k<=4){e:Int}{l:List Tm}(h:¬ae (ck k e l) []):∃m,aB l m≠0/\m.get k=e:=by
 obtain⟨m,hm⟩:=MK h;rw[mE h1 h4]at hm
 split at hm
 ·rename_i h0;exact⟨_,hm,by rw[gL,h0,dX k k _ h1 h4,if_pos rfl];omega⟩
 ·exact absurd rfl hm
theorem eQ{k:Nat}(h1:1<=k)(h4:k<=4){e:Int}{l:List Tm}(h:NN l):NN (ck k e l):=λm hm=>by
 rw[mE h1 h4]
 split
 ·rename_i h0;refine h _ ?_
  cases hc:(Mo.add m (xp k e)).nn with
  |false=>rfl
  |true=>
   rw[Mo.Ap]at hc
   have:m.nn=true:=by
    rw[Mo.Ap];have g1:(Mo.add m (xp k e)).a=m.a+(if k=1 then e else 0):=rfl;have g2:(Mo.add m (xp k e)).b=m.b+(if k=2 then e else 0):=rfl;have g3:(Mo.add m (xp k e)).c=m.c+(if k=3 then e else 0):=rfl;have g4:(Mo.add m (xp k e)).d=m.d+(if k=4 then e else 0):=rfl;rw[g1,g2,g3,g4]at hc;rcases ME h1 h4 with rfl|rfl|rfl|rfl<;>simp[Mo.get]at h0 hc⊢ <;>omega
   rw[hm]at this;cases this
 ·rfl
theorem uk{D N:Nat}{P:Nat->List Tm}(hD:D+1<=4)(bT:∀i,i<N->dN D (P i))(e:Nat):ae (ck (D+1) (e:Int) (aJ (D+1) N P)) (if e<N then P e else[]):=λm=>by
 rw[mE (by omega) hD]
 by_cases hm:m.get (D+1)=0
 ·rw[if_pos hm,DV (D+1) N P (by omega) hD bT _ e (by rw[gL,hm,dX _ _ _ (by omega) hD,if_pos rfl];omega)]
  by_cases he:e<N
  ·rw[if_pos he,if_pos he, <-(Mo.add_eq m _ _).1 rfl]
  ·rw[if_neg he,if_neg he];rfl
 ·rw[if_neg hm]
  by_cases he:e<N
  ·rw[if_pos he];exact((bT e he).uX (k:=D+1) (by omega) hD hm).symm
  ·rw[if_neg he];rfl
theorem qdF{k:Nat}(h1:1<=k)(h4:k<=4)(x y:Mo):wo k (Mo.add x y)=Mo.add (wo k x) (wo k y):=Mo.ext_get λj _ _=>by
 rw[IW h1 h4,gL,gL,IW h1 h4,IW h1 h4]
 split<;>omega
theorem qoJ{k:Nat}(h1:1<=k)(h4:k<=4){x:Mo}(h:x.get k=0):wo k x=x:=Mo.ext_get λj _ _=>by
 rw[IW h1 h4]
 split
 ·rename_i hj;subst hj;omega
 ·rfl
theorem TU{k:Nat}(h1:1<=k)(h4:k<=4){e e':Int}{g:List Tm}(hg:∀t∈g,t.2.get k<=e'):∀q:List Tm,(∀s∈q,s.2.get k<=e)->ck k (e+e') (ai q g)=ai (ck k e q) (ck k e' g)
 |[],_=>rfl
 |s::q,h=>by
  have ih:=TU h1 h4 hg q λt ht=>h t (List.mem_cons_of_mem _ ht);have hs:=h s List.mem_cons_self;show ck k (e+e') (shift s.2 (smul s.1 g)++ai q g)=shift (wo k s.2) (smul (s.1*(if s.2.get k=e then 1 else 0)) (ck k e' g))++ai (ck k e q) (ck k e' g);rw[<-ih];unfold ck;rw[QO]
  congr 1
  unfold lD shift smul;rw[List.map_map,List.map_map,List.map_map,List.map_map];apply List.map_congr_left;intro t ht;have h2:=hg t ht;simp only[Function.comp_def,K7,gL,qdF h1 h4]
  congr 1
  by_cases a1:s.2.get k=e
  ·by_cases a2:t.2.get k=e'
   ·rw[if_pos (by omega),if_pos a1,if_pos a2];simp
   ·rw[if_neg (by omega),if_neg a2];simp
  ·rw[if_neg (by omega),if_neg a1];simp
theorem ZW{k:Nat}(h1:1<=k)(h4:k<=4){e:Int}{g:List Tm}(hg:∀t∈g,t.2.get k=0):∀q:List Tm,ck k e (ai q g)=ai (ck k e q) g
 |[]=>rfl
 |s::q=>by
  have ih:=ZW h1 h4 (e:=e) hg q;show ck k e (shift s.2 (smul s.1 g)++ai q g)=shift (wo k s.2) (smul (s.1*(if s.2.get k=e then 1 else 0)) g)++ai (ck k e q) g;rw[<-ih];unfold ck;rw[QO]
  congr 1
  unfold lD shift smul;rw[List.map_map,List.map_map,List.map_map];apply List.map_congr_left;intro t ht;have h2:=hg t ht;simp only[Function.comp_def,K7,gL,qdF h1 h4,qoJ h1 h4 h2,h2]
  congr 1
  by_cases a1:s.2.get k=e
  ·rw[if_pos (by omega),if_pos a1];simp
  ·rw[if_neg (by omega),if_neg a1];simp
theorem VA(k:Nat):∀{l:List Tm},(∀t∈l,t.2.nn=true)->∃e:Nat,(∀s∈l,s.2.get k<=e)/\(l=[]\/∃s∈l,s.2.get k=e)
 |[],_=>⟨0,λs hs=>(by cases hs),.inl rfl⟩
 |t::l,h=>by
  obtain⟨e,h1,h2⟩:=VA k λs hs=>h s (List.mem_cons_of_mem _ hs);have h0:=vL (h t List.mem_cons_self) k
  by_cases hc:t.2.get k<=e/\l≠[]
  ·refine⟨e,λs hs=>?_,.inr ?_⟩
   ·rcases List.mem_cons.1 hs with rfl|hs
    ·exact hc.1
    ·exact h1 s hs
   ·obtain⟨s,hs,he⟩:=h2.resolve_left hc.2;exact⟨s,List.mem_cons_of_mem _ hs,he⟩
  ·refine⟨(t.2.get k).toNat,λs hs=>?_,.inr ⟨t,List.mem_cons_self,by omega⟩⟩;rcases List.mem_cons.1 hs with rfl|hs
   ·omega
   ·by_cases hl:l=[]
    ·rw[hl]at hs;cases hs
    ·have:=h1 s hs;have:¬t.2.get k<=e:=λhx=>hc ⟨hx,hl⟩;omega
theorem IP:∀{l:List Tm},Canon l->∀{t:Tm},t∈l->aB l t.2≠0
 |s::l,h,t,ht=>by
  rcases List.mem_cons.1 ht with rfl|ht
  ·rw[h.DU];exact(h.2 t List.mem_cons_self).1
  ·have h1:=IP h.tail ht;have h2:=Mo.JF (h.head t ht);simp only[aB];rw[if_neg (λe=>h2 e.symm),Int.zero_add];exact h1
theorem Wq{k:Nat}(h1:1<=k)(h4:k<=4){q g:List Tm}{n:Nat}(hq:NN q)(hz:¬ae q [])(hg:NN g)(hn:∀t∈g,t.2.get k<=n)(ht:¬ae (ck k (n:Int) g) []):∃e:Nat,(∀s∈norm q,s.2.get k<=e)/\¬ae (ck k ((e+n:Nat):Int) (ai q g)) []:=by
 obtain⟨e,he,hx⟩:=VA k (Br q);have hs:=l7 hq;have hne:norm q≠[]:=λh=>hz (by rw[h]at hs;exact hs.symm);obtain⟨s,Mj,hse⟩:=hx.resolve_left hne;have hc:aB (norm q) s.2≠0:=IP (qZ q) Mj;have h5:=DT h1 h4 hc;rw[hse]at h5;refine⟨e,he,λhh=>?_⟩;have h6:=TU h1 h4 (e:=(e:Int)) (e':=(n:Int)) hn (norm q) he
 have h7:ae (ck k ((e+n:Nat):Int) (ai q g)) (ai (ck k e (norm q)) (ck k n g)):=by
  rw[<-h6];exact gV (hs.symm.mY g)
 exact lT (eQ h1 h4 (Aq (Br q))) (eQ h1 h4 hg) h5 ht (h7.symm.trans hh)
theorem qzE{k:Nat}(h1:1<=k)(h4:k<=4){g:List Tm}(hg:NN g)(hz:¬ae g []):∃n:Nat,(∀t∈norm g,t.2.get k<=n)/\¬ae (ck k (n:Int) (norm g)) []:=by
 obtain⟨e,he,hx⟩:=VA k (Br g);have hs:=l7 hg;obtain⟨s,Mj,hse⟩:=hx.resolve_left λh=>hz (by rw[h]at hs;exact hs.symm);have hc:aB (norm g) s.2≠0:=IP (qZ g) Mj;have h5:=DT h1 h4 hc;rw[hse]at h5;exact⟨e,he,h5⟩
theorem qrS{q g l:List Tm}{B:Nat}(hq:NN q)(hg:NN g)(hz:¬ae g [])(h:ae (ai q g) l)(hB:bn B l):bn B q:=λm hm k=>by
 by_cases hk:1<=k/\k<=4
 ·obtain⟨n,hn,ht⟩:=qzE hk.1 hk.2 hg hz;have GR:¬ae q []:=λhs=>hm (hs m);obtain⟨e,he,hc⟩:=Wq hk.1 hk.2 hq GR (Aq (Br g)) hn ht;have h5:ae (ai q (norm g)) l:=((l7 hg).rf q).trans h;obtain⟨m',hm',PO⟩:=TS hk.1 hk.2 (λhs=>hc ((gV h5).trans hs));have h6:=hB m' hm' k;rw[<-(l7 hq) m]at hm;obtain⟨s,hs,e2⟩:∃s∈norm q,s.2=m:=Classical.byContradiction λfD=>hm (qh λt ht e=>fD ⟨t,ht,e⟩);have h7:=he s hs;rw[e2]at h7;omega
 ·have:m.get k=0:=by
   unfold Mo.get;rw[if_neg (by omega),if_neg (by omega),if_neg (by omega),if_neg (by omega)]
  omega
def Dv(r l:List Tm):Prop:=∃q,NN q/\ae (ai q r) l
theorem qc9{D N:Nat}{P:Nat->List Tm}(hD:D+1<=4)(bT:∀i,i<N->dN D (P i)):∀t∈aJ (D+1) N P,∃i,i<N/\t.2.get (D+1)=(i:Int):=λt ht=>by
 obtain⟨i,hi,s,hs,rfl⟩:=EN ht;refine⟨i,hi,?_⟩;show(Mo.add s.2 (xp (D+1) (i:Int))).get (D+1)=i;rw[gL,bT i hi s hs (D+1) (by omega) hD,dX _ _ _ (by omega) hD,if_pos rfl];omega
section
variable{D n:Nat}{G:Nat->List Tm}
theorem qAR(hD:D+1<=4)(hG:∀i,i<n+1->dN D (G i))(hz:¬ae (G n) [])(hN:NN (aJ (D+1) (n+1) G)){h:List Tm}(hh:NN h){R:Nat->List Tm}{k:Nat}(hR:∀i,i<n+k+1->dN D (R i))(hs:ae (ai h (aJ (D+1) (n+1) G)) (aJ (D+1) (n+k+1) R)):Dv (G n) (R (n+k)):=by
 have jR:∀t∈aJ (D+1) (n+1) G,t.2.get (D+1)<=(n:Int):=λt ht=>by
  obtain⟨i,hi,e⟩:=qc9 hD hG t ht;omega
 have Eg:=uk hD hG n;rw[if_pos (by omega)]at Eg
 have hle:∀s∈norm h,s.2.get (D+1)<=(k:Int):=by
  by_cases Qy:ae h []
  ·have:norm h=[]:=Qy.norm;rw[this];intro s hs;cases hs
  ·obtain⟨e,he,hc⟩:=Wq (by omega) hD hh Qy hN jR (λhx=>hz (Eg.symm.trans hx));have h5:=uk hD hR (e+n)
   have hlt:e+n<n+k+1:=by
    refine Classical.byContradiction λdO=>hc ?_;rw[if_neg dO]at h5;exact(gV hs).trans h5
   intro s kC;have:=he s kC;omega
 have h6:=TU (by omega) hD (e:=(k:Int)) (e':=(n:Int)) jR (norm h) hle;have h7:=uk hD hR (n+k);rw[if_pos (by omega)]at h7;refine⟨ck (D+1) k (norm h),eQ (by omega) hD (Aq (Br h)),?_⟩;refine(Eg.symm.rf _).trans ?_;rw[<-h6,show(k:Int)+(n:Int)=((n+k:Nat):Int) by omega];exact(gV (((l7 hh).mY _).trans hs)).trans h7
theorem qsp(hD:D+1<=4)(hG:∀i,i<n+1->dN D (G i))(hz:¬ae (G n) [])(hN:NN (aJ (D+1) (n+1) G)){h:List Tm}(hh:NN h){R:Nat->List Tm}{N:Nat}(hNn:N<=n)(hR:∀i,i<N->dN D (R i))(hs:ae (ai h (aJ (D+1) (n+1) G)) (aJ (D+1) N R)):ae (aJ (D+1) N R) []:=by
 by_cases Qy:ae h []
 ·exact hs.symm.trans (Qy.mY _)
 ·exfalso
  have jR:∀t∈aJ (D+1) (n+1) G,t.2.get (D+1)<=(n:Int):=λt ht=>by
   obtain⟨i,hi,e⟩:=qc9 hD hG t ht;omega
  have Eg:=uk hD hG n;rw[if_pos (by omega)]at Eg;obtain⟨e,he,hc⟩:=Wq (by omega) hD hh Qy hN jR (λhx=>hz (Eg.symm.trans hx));have h5:=uk hD hR (e+n);rw[if_neg (by omega)]at h5;exact hc ((gV hs).trans h5)
theorem qsw(hD:D+1<=4)(hn:1<=n)(hG:∀i,i<n+1->dN D (G i))(hz:¬ae (G n) [])(hN:NN (aJ (D+1) (n+1) G)){l:List Tm}(hl:∀t∈l,t.2.get (D+1)=0)(P7:¬ae l []):¬Dv (aJ (D+1) (n+1) G) l:=by
 rintro⟨q,hq,hs⟩;have GR:¬ae q []:=λhx=>P7 (hs.symm.trans (hx.mY _))
 have jR:∀t∈aJ (D+1) (n+1) G,t.2.get (D+1)<=(n:Int):=λt ht=>by
  obtain⟨i,hi,e⟩:=qc9 hD hG t ht;omega
 have Eg:=uk hD hG n;rw[if_pos (by omega)]at Eg;obtain⟨e,he,hc⟩:=Wq (by omega) hD hq GR hN jR (λhx=>hz (Eg.symm.trans hx));obtain⟨m,hm,Cg⟩:=TS (by omega) hD (λhx=>hc ((gV hs).trans hx));obtain⟨t,ht,rfl⟩:∃t∈l,t.2=m:=Classical.byContradiction λfD=>hm (qh λt ht e=>fD ⟨t,ht,e⟩);rw[hl t ht]at Cg;omega
end
theorem qsv{D N:Nat}(hD:D+1<=4){F:Nat->List Tm}(hF:∀i,i<N->dN D (F i)){g:List Tm}(hg:∀t∈g,t.2.get (D+1)=0)(h:Dv g (aJ (D+1) N F))(i:Nat)(hi:i<N):Dv g (F i):=by
 obtain⟨q,hq,hs⟩:=h;refine⟨ck (D+1) (i:Int) q,eQ (by omega) hD hq,?_⟩;rw[<-ZW (by omega) hD hg];have h7:=uk hD hF i;rw[if_pos hi]at h7;exact(gV hs).trans h7
theorem Dv.bZ{r r' l l':List Tm}(h:Dv r l)(hr:ae r r')(hl:ae l l'):Dv r' l':=by
 obtain⟨q,hq,hs⟩:=h;exact⟨q,hq,(hr.symm.rf q).trans (hs.trans hl)⟩
theorem qhH{y z:Int}(hz:z≠0):Dv [(z,Mo.zero)] [(y,Mo.zero)]↔y.tmod z=0:=by
 constructor
 ·rintro⟨q,hq,hs⟩;have h1:=hs Mo.zero;have h2:=VO q (z,Mo.zero) Mo.zero;rw[Rc,iD]at h2;rw[h2]at h1;simp only[aB,if_true,Int.add_zero]at h1;exact Int.tmod_eq_zero_of_dvd ⟨_,h1.symm⟩
 ·intro h;have hd:=Int.dvd_of_tmod_eq_zero h;refine⟨[(y.tdiv z,Mo.zero)],Aq λt ht=>by simp only[List.mem_singleton]at ht;subst ht;rfl,λm=>?_⟩;have:=Int.tdiv_mul_cancel hd;simp[ai,shift,smul,aB,Mo.add_zero',this]
end Go.Proofs.YtmcfpnmoklnhoaaGreat
