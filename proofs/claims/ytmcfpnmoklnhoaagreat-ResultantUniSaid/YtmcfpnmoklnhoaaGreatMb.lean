/- Mb -/
import Derived.Test.YtmcfpnmoklnhoaaGreatMo
import Derived.Deep.AppendLies
import Derived.ChangeKeysEq
import Derived.Sort.Grow
import Derived.Deep.RegionWith
import Derived.Deep.DrawnRows
set_option linter.unusedVariables false
set_option maxRecDepth 100000
set_option maxHeartbeats 400000000
set_option linter.unusedSimpArgs false
namespace Go.Proofs.YtmcfpnmoklnhoaaGreat
open Go.RowKit
def Own(w:World)(base:Nat)(E:TypeId)(k:Nat)(v:Value)(n:Nat)(f:Nat->Value):Prop:=
 (v=.slice none 0 0/\n=0)\/∃(g cap:Nat)(F:Nat->Value),v=.slice (some ⟨g,0,none⟩) n cap/\base<=g/\aG w g E (cap*k) F/\n<=cap/\cap<=maxLen/\∀j,j<n*k->F j=f j
def vS(f:Nat->Value)(N:Nat):List Value:=(List.range N).map f
theorem Ja(f:Nat->Value)(N j:Nat)(h:j<N):(vS f N)[j]?=some (f j):=by
 unfold vS;rw[List.getElem?_map,List.getElem?_range h];rfl
theorem BR(f:Nat->Value)(N:Nat):(vS f N).length=N:=by simp[vS]
def app(f:Nat->Value)(N:Nat)(s:Nat->Value):Nat->Value:=λj=>if j<N then f j else s (j-N)
theorem qpV(f s:Nat->Value)(N k:Nat):vS f N++vS s k=vS (app f N s) (N+k):=by
 apply List.ext_getElem?;intro i
 by_cases h1:i<N
 ·rw[List.getElem?_append_left (by simpa[BR]using h1),Ja _ _ _ h1,Ja _ _ _ (by omega)];unfold app;rw[ai h1]
 ·rw[List.getElem?_append_right (by simpa[BR]using h1),BR]
  by_cases h2:i<N+k
  ·rw[Ja _ _ _ (by omega),Ja _ _ _ h2];unfold app;rw[ah h1]
  ·rw[List.getElem?_eq_none (by simp[BR];omega),List.getElem?_eq_none (by simp[BR];omega)]
theorem Own.qqG{w:World}{base:Nat}{E:TypeId}{k:Nat}{v:Value}{n:Nat}{f:Nat->Value}(h:Own w base E k v n f):w.ownsRow base E k v n (vS f (n*k)):=by
 refine⟨BR _ _,?_⟩;rcases h with⟨rfl,rfl⟩|⟨g,cap,F,rfl,hb,⟨cur,hg,hs,hc⟩,hn,hm,hf⟩
 ·exact .inl ⟨rfl,rfl⟩
 ·refine .inr ⟨g,cap,cur,rfl,hb,hg,hn,hm,hs,?_⟩;apply List.ext_getElem?;intro i;have DZ:n*k<=cap*k:=eB _ hn
  by_cases h1:i<n*k
  ·rw[List.getElem?_take,ai h1,Ja _ _ _ h1];have:=hc i (by omega);rw[<-Array.getElem?_toList]at this;rw[this,hf i h1]
  ·rw[List.getElem?_eq_none (by simp;omega),List.getElem?_eq_none (by simp[BR];omega)]
theorem Own.ofRow{w:World}{base:Nat}{E:TypeId}{k g cap:Nat}{n:Nat}{f:Nat->Value}(h:w.ownsRow base E k (.slice (some ⟨g,0,none⟩) n cap) n (vS f (n*k))):Own w base E k (.slice (some ⟨g,0,none⟩) n cap) n f:=by
 rcases h.2 with⟨h',_⟩|⟨g',cap',cur,h',hb,hg,hn,hm,hs,qdO⟩
 ·simp at h'
 ·simp only[Value.slice.injEq,Option.some.injEq,Addr.mk.injEq,and_true,true_and]at h';obtain⟨rfl,rfl⟩:=h';have DZ:n*k<=cap*k:=eB _ hn;refine .inr ⟨g,cap,λj=>cur.getD j undef,rfl,hb,⟨cur,hg,hs,λi hi=>?_⟩,hn,hm,λj hj=>?_⟩
  ·show cur[i]?=some (cur.getD i undef);rw[Array.getD_eq_getD_getElem?];simp[hs,hi]
  ·have h1:(cur.toList.take (n*k))[j]?=some (f j):=by rw[qdO,Ja _ _ _ hj]
   rw[List.getElem?_take,ai hj,Array.getElem?_toList]at h1;show cur.getD j undef=f j;rw[Array.getD_eq_getD_getElem?,h1];rfl
theorem Own.of_heap{w w':World}{base:Nat}{E:TypeId}{k:Nat}{v:Value}{n:Nat}{f:Nat->Value}(h:Own w base E k v n f)(he:∀g,v.ownBlock=some g->w'.heap[g]?=w.heap[g]?):Own w' base E k v n f:=by
 rcases h with h|⟨g,cap,F,rfl,hb,hB,r⟩
 ·exact .inl h
 ·exact .inr ⟨g,cap,F,rfl,hb,hB.of_heap (he g rfl),r⟩
theorem Own.lt{w:World}{base:Nat}{E:TypeId}{k:Nat}{v:Value}{n:Nat}{f:Nat->Value}(h:Own w base E k v n f):∀g,v.ownBlock=some g->base<=g/\g<w.heap.size:=by
 rcases h with⟨rfl,_⟩|⟨g,cap,F,rfl,hb,hB,_⟩
 ·intro g hg;simp[Value.ownBlock]at hg
 ·intro g' hg;simp[Value.ownBlock]at hg;subst hg;exact⟨hb,hB.lt⟩
theorem Own.ext{w w':World}{base:Nat}{E:TypeId}{k:Nat}{v:Value}{n:Nat}{f:Nat->Value}(h:Own w base E k v n f)(he:Ext w w'):Own w' base E k v n f:=h.of_heap λg hg=>he.heap (h.lt g hg).2
theorem Own.congr{w:World}{base:Nat}{E:TypeId}{k:Nat}{v:Value}{n:Nat}{f f':Nat->Value}(h:Own w base E k v n f)(hf:∀j,j<n*k->f j=f' j):Own w base E k v n f':=by
 rcases h with h|⟨g,cap,F,rfl,hb,hB,h1,h2,h3⟩
 ·exact .inl h
 ·exact .inr ⟨g,cap,F,rfl,hb,hB,h1,h2,λj hj=>(h3 j hj).trans (hf j hj)⟩
theorem Own.nil(w:World)(base:Nat)(E:TypeId)(k:Nat)(f:Nat->Value):Own w base E k (.slice none 0 0) 0 f:=.inl ⟨rfl,rfl⟩
theorem Own.form{w:World}{base:Nat}{E:TypeId}{k:Nat}{v:Value}{n:Nat}{f:Nat->Value}(h:Own w base E k v n f):∃a cap,v=.slice a n cap:=by
 rcases h with⟨rfl,rfl⟩|⟨g,cap,F,rfl,_⟩
 ·exact⟨_,_,rfl⟩
 ·exact⟨_,_,rfl⟩
theorem Own.some{w:World}{base:Nat}{E:TypeId}{k:Nat}{v:Value}{n:Nat}{f:Nat->Value}(h:Own w base E k v n f)(h0:0<n):∃(g cap:Nat)(F:Nat->Value),v=.slice (some ⟨g,0,none⟩) n cap/\base<=g/\aG w g E (cap*k) F/\n<=cap/\cap<=maxLen/\∀j,j<n*k->F j=f j:=by
 rcases h with⟨_,rfl⟩|h
 ·omega
 ·exact h
theorem TT{P:Program}(w:World){ops:Array Oper}{rest:List Oper}{o:Oper}{a:Act}{Q:Exit->Act->World->Prop}(jF:o.guard=none)(s x:Operand)(t:TypeId)
 (ho:o.op=.call {callee:=.builtin .append,args:= #[s,x],argTypes:= #[t,t]})
 (base:Nat) (e:TypeId) (i:TypeInfo) (z:Value) (k bytes:Nat) (ht:P.underlying t=some (.slice e)) (hi:P.info? e=some i) (hz:i.zero=some z)
 (qdF:i.size=k) (DF:i.bytes=bytes) (IM:z.cells.size=k) (hsz:0<k)
 (v:Value) (n:Nat) (f:Nat->Value) (hs:a.eval s=v) (hown:Own w base e k v n f)
 (q:Nat) (tq:TypeId) (c:Nat) (src:Nat->Value) (hx:a.eval x=.slice (some ⟨q,0,none⟩) 1 c) (hB:aG w q tq k src) (h1:∀j,j<k->(src j).oneCell'=true)
 (Km:n+1<=maxLen) (qcG:(n+1)*bytes<=140737488355328) (hbase:base<=w.heap.size)
 (h:∀g cap w',Own w' base e k (.slice (some ⟨g,0,none⟩) (n+1) cap) (n+1) (app f (n*k) src)->w.grownBy w' v.ownBlock->(v.ownBlock=some g\/w.heap.size<=g)->g<w'.heap.size->wpList P ops Q rest (a.put o.dst (.slice (some ⟨g,0,none⟩) (n+1) cap)) w'):
 wpList P ops Q (o::rest) a w:=by
 refine wpList_append_lies w jF s x t ho base e i z k bytes ht hi hz qdF DF IM hsz v n (vS f (n*k)) hs hown.qqG ⟨q,0,none⟩ 1 c (vS src k) hx (by rw[BR];omega) ?_ ?_ (by omega) Km qcG hbase w.heap.size rfl ?_
 ·intro j u hu
  have hj:j<k:=by
   have:=(List.getElem?_eq_some_iff.1 hu).1;simpa[BR]using this
  rw[Ja _ _ _ hj]at hu;cases hu;rw[GQ,Nat.zero_add];exact hB.cell hj
 ·intro u hu;simp only[vS,List.mem_map,List.mem_range]at hu;obtain⟨j,hj,rfl⟩:=hu;exact h1 j hj
 ·intro g cap w' ho hg hat hlt;rw[qpV,show n*k+k=(n+1)*k from by rw[Nat.add_mul,Nat.one_mul]]at ho;exact h g cap w' (Own.ofRow ho) hg (hat.imp id (λe=>by omega)) hlt
theorem Yw{P:Program}(w:World){ops:Array Oper}{o:Oper}{a:Act}{K:Act->World->Prop}{Q:Exit->Act->World->Prop}{E:Prop}(jF:o.guard=none)(s x:Operand)(t:TypeId)
 (ho:o.op=.call {callee:=.builtin .append,args:= #[s,x],argTypes:= #[t,t]})
 (base:Nat) (e:TypeId) (i:TypeInfo) (z:Value) (k bytes:Nat) (ht:P.underlying t=some (.slice e)) (hi:P.info? e=some i) (hz:i.zero=some z)
 (qdF:i.size=k) (DF:i.bytes=bytes) (IM:z.cells.size=k) (hsz:0<k)
 (v:Value) (n:Nat) (f:Nat->Value) (hs:a.eval s=v) (hown:Own w base e k v n f)
 (q:Nat) (tq:TypeId) (c:Nat) (src:Nat->Value) (hx:a.eval x=.slice (some ⟨q,0,none⟩) 1 c) (hB:aG w q tq k src) (h1:∀j,j<k->(src j).oneCell'=true)
 (Km:n+1<=maxLen) (qcG:(n+1)*bytes<=140737488355328) (hbase:base<=w.heap.size)
 (h:∀g cap w',Own w' base e k (.slice (some ⟨g,0,none⟩) (n+1) cap) (n+1) (app f (n*k) src)->w.grownBy w' v.ownBlock->(v.ownBlock=some g\/w.heap.size<=g)->g<w'.heap.size->K (a.put o.dst (.slice (some ⟨g,0,none⟩) (n+1) cap)) w'):
 if Region.wanted o (yielded ops a.tmps)=true then Oper.wp P o a w K Q else E:=by
 refine step_append_lies w jF s x t ho base e i z k bytes ht hi hz qdF DF IM hsz v n (vS f (n*k)) hs hown.qqG ⟨q,0,none⟩ 1 c (vS src k) hx (by rw[BR];omega) ?_ ?_ (by omega) Km qcG hbase w.heap.size rfl ?_
 ·intro j u hu
  have hj:j<k:=by
   have:=(List.getElem?_eq_some_iff.1 hu).1;simpa[BR]using this
  rw[Ja _ _ _ hj]at hu;cases hu;rw[GQ,Nat.zero_add];exact hB.cell hj
 ·intro u hu;simp only[vS,List.mem_map,List.mem_range]at hu;obtain⟨j,hj,rfl⟩:=hu;exact h1 j hj
 ·intro g cap w' ho hg hat hlt;rw[qpV,show n*k+k=(n+1)*k from by rw[Nat.add_mul,Nat.one_mul]]at ho;exact h g cap w' (Own.ofRow ho) hg (hat.imp id (λe=>by omega)) hlt
theorem aG.made{w:World}{base g n:Nat}{e:TypeId}{k:Nat}{zs:Array Value}(h:w.ownsRow base e k (.slice (some ⟨g,0,none⟩) n n) n (madeCells zs (n*k)).toList)(hz:zs.size=k)(hk:0<k):aG w g e (n*k) (λj=>arr zs (j%k)):=by
 refine aG.qo6 h _ λi hi=>?_;have hm:i%k<k:=Nat.mod_lt _ hk;subst hz;simp[madeCells,hi,arr,Array.getD_eq_getD_getElem?,hm]
end Go.Proofs.YtmcfpnmoklnhoaaGreat
namespace Go.Proofs.YtmcfpnmoklnhoaaGreat
structure Mo where
 a:Int
 b:Int
 c:Int
 d:Int
deriving DecidableEq
abbrev Tm:=Int × Mo
def Mo.lt(x y:Mo):Prop:=x.d<y.d\/(x.d=y.d/\(x.c<y.c\/(x.c=y.c/\(x.b<y.b\/(x.b=y.b/\x.a<y.a)))))
instance(x y:Mo):Decidable (Mo.lt x y):=by unfold Mo.lt;infer_instance
theorem Mo.ext'{x y:Mo}(h1:x.a=y.a)(h2:x.b=y.b)(h3:x.c=y.c)(h4:x.d=y.d):x=y:=by
 cases x;cases y;simp_all
theorem Mo.lt_irrefl(x:Mo):¬Mo.lt x x:=by unfold Mo.lt;omega
theorem Mo.lt_trans{x y z:Mo}(h1:Mo.lt x y)(h2:Mo.lt y z):Mo.lt x z:=by unfold Mo.lt at*;omega
theorem Mo.SS(x y:Mo):Mo.lt x y\/x=y\/Mo.lt y x:=by
 by_cases h:x=y
 ·exact .inr (.inl h)
 ·have h2:¬(x.a=y.a/\x.b=y.b/\x.c=y.c/\x.d=y.d):=λ⟨a,b,c,d⟩=>h (Mo.ext' a b c d);unfold Mo.lt;omega
theorem Mo.K9{x y:Mo}(h:Mo.lt x y):x≠y:=λe=>Mo.lt_irrefl y (e ▸ h)
theorem Mo.lt_asymm{x y:Mo}(h:Mo.lt x y):¬Mo.lt y x:=λk=>Mo.lt_irrefl x (Mo.lt_trans h k)
def rq(x y:Mo):Int:=if Mo.lt x y then-1 else if Mo.lt y x then 1 else 0
theorem qtB(x y:Mo):rq x y=0↔x=y:=by
 unfold rq;rcases Mo.SS x y with h|h|h
 ·rw[ai h];exact⟨λe=>by omega,λe=>absurd e (Mo.K9 h)⟩
 ·subst h;rw[ah (Mo.lt_irrefl x),ah (Mo.lt_irrefl x)];simp
 ·rw[ah (Mo.lt_asymm h),ai h];exact⟨λe=>by omega,λe=>absurd e.symm (Mo.K9 h)⟩
theorem VF(x y:Mo):rq x y<0↔Mo.lt x y:=by
 unfold rq
 by_cases h:Mo.lt x y
 ·rw[ai h];simp[h]
 ·rw[ah h];split<;>simp[h]
def Mo.nn(m:Mo):Bool:=decide (0<=m.a)&&decide (0<=m.b)&&decide (0<=m.c)&&decide (0<=m.d)
theorem Mo.BN(m:Mo):m.nn=true↔0<=m.a/\0<=m.b/\0<=m.c/\0<=m.d:=by
 unfold Mo.nn;simp[and_assoc]
def aL:List Tm->Mo->Int
 |[],_=>0
 |t::l,m=>(if t.2=m then t.1 else 0)+aL l m
def sD(l:List Tm)(m:Mo):Int:=if m.nn then aL l m else 0
def aK:List Tm->Nat
 |[]=>0
 |t::l=>t.1.natAbs+aK l
theorem iZ(l r:List Tm)(m:Mo):aL (l++r) m=aL l m+aL r m:=by
 induction l with
 |nil=>simp[aL]
 |cons t l ih=>simp only[List.cons_append,aL,ih];omega
theorem lN(l r:List Tm):aK (l++r)=aK l+aK r:=by
 induction l with
 |nil=>simp[aK]
 |cons t l ih=>simp only[List.cons_append,aK,ih];omega
theorem rQ{l:List Tm}{m:Mo}(h:∀t∈l,t.2≠m):aL l m=0:=by
 induction l with
 |nil=>rfl
 |cons t l ih=>
  simp only[aL];rw[ah (h t (List.mem_cons_self ..)),ih λt ht=>h t (List.mem_cons_of_mem _ ht)];omega
theorem qbb{l r:List Tm}(h:l.Perm r)(m:Mo):aL l m=aL r m:=by
 induction h with
 |nil=>rfl
 |cons t _ ih=>simp only[aL,ih]
 |swap s t l=>simp only[aL];omega
 |trans _ _ ih1 ih2=>rw[ih1,ih2]
theorem qiY(l:List Tm)(m:Mo):(aL l m).natAbs<=aK l:=by
 induction l with
 |nil=>simp[aL,aK]
 |cons t l ih=>simp only[aL,aK];split<;>omega
theorem qzH{l:List Tm}{t:Tm}(h:t∈l):t.1.natAbs<=aK l:=by
 induction l with
 |nil=>cases h
 |cons s l ih=>
  simp only[aK];rcases List.mem_cons.1 h with rfl|h
  ·omega
  ·have:=ih h;omega
def Canon(l:List Tm):Prop:=l.Pairwise (λs t=>Mo.lt t.2 s.2)/\∀t∈l,t.1≠0/\t.2.nn=true
theorem Canon.nil:Canon []:=⟨List.Pairwise.nil,λ_ h=>by cases h⟩
theorem Canon.tail{t:Tm}{l:List Tm}(h:Canon (t::l)):Canon l:=⟨(List.pairwise_cons.1 h.1).2,λs hs=>h.2 s (List.mem_cons_of_mem _ hs)⟩
theorem Canon.head{t:Tm}{l:List Tm}(h:Canon (t::l)):∀s∈l,Mo.lt s.2 t.2:=(List.pairwise_cons.1 h.1).1
theorem Canon.EW{t:Tm}{l:List Tm}(h:Canon (t::l)):aL (t::l) t.2=t.1:=by
 simp only[aL,if_true];rw[rQ λs hs=>Mo.K9 (h.head s hs)];omega
theorem Canon.qbc{l:List Tm}{m:Mo}(hm:∀t∈l,Mo.lt t.2 m):aL l m=0:=rQ λt ht=>Mo.K9 (hm t ht)
theorem Canon.ext{l r:List Tm}(hl:Canon l)(hr:Canon r)(h:∀m,aL l m=aL r m):l=r:=by
 induction l generalizing r with
 |nil=>
  cases r with
  |nil=>rfl
  |cons s r=>
   exfalso;have:=h s.2;rw[hr.EW]at this;exact(hr.2 s (List.mem_cons_self ..)).1 this.symm
 |cons t l ih=>
  cases r with
  |nil=>
   exfalso;have:=h t.2;rw[hl.EW]at this;exact(hl.2 t (List.mem_cons_self ..)).1 this
  |cons s r=>
   have hm:t.2=s.2:=by
    rcases Mo.SS t.2 s.2 with h1|h1|h1
    ·exfalso;have h2:=h s.2;rw[hr.EW,Canon.qbc (l:=t::l)]at h2
     ·exact(hr.2 s (List.mem_cons_self ..)).1 h2.symm
     ·intro q hq;rcases List.mem_cons.1 hq with rfl|hq
      ·exact h1
      ·exact Mo.lt_trans (hl.head q hq) h1
    ·exact h1
    ·exfalso;have h2:=h t.2;rw[hl.EW,Canon.qbc (l:=s::r)]at h2
     ·exact(hl.2 t (List.mem_cons_self ..)).1 h2
     ·intro q hq;rcases List.mem_cons.1 hq with rfl|hq
      ·exact h1
      ·exact Mo.lt_trans (hr.head q hq) h1
   have hc:t.1=s.1:=by
    have h2:=h t.2;rw[hl.EW,hm,hr.EW]at h2;exact h2
   have ht:t=s:=Prod.ext hc hm;subst ht;rw[ih hl.tail hr.tail λm=>by have:=h m;simp only[aL]at this;omega]
def ins(c:Int)(m:Mo):List Tm->List Tm
 |[]=>if c=0 then[]else[(c,m)]
 |t::r=>if t.2=m then(if t.1+c=0 then r else(t.1+c,m)::r)else if Mo.lt t.2 m then(if c=0 then t::r else(c,m)::t::r)else t::ins c m r
theorem qnQ{c:Int}{m:Mo}{l:List Tm}{t:Tm}(h:t∈ins c m l):t.2=m\/t∈l:=by
 induction l with
 |nil=>
  simp only[ins]at h;split at h
  ·cases h
  ·simp at h;subst h;exact .inl rfl
 |cons s r ih=>
  simp only[ins]at h
  split at h
  ·split at h
   ·exact .inr (List.mem_cons_of_mem _ h)
   ·rcases List.mem_cons.1 h with rfl|h
    ·exact .inl rfl
    ·exact .inr (List.mem_cons_of_mem _ h)
  ·split at h
   ·split at h
    ·exact .inr h
    ·rcases List.mem_cons.1 h with rfl|h
     ·exact .inl rfl
     ·exact .inr h
   ·rcases List.mem_cons.1 h with rfl|h
    ·exact .inr (List.mem_cons_self ..)
    ·exact(ih h).imp id (List.mem_cons_of_mem _)
theorem qyq{c:Int}{m:Mo}{l:List Tm}(hm:m.nn=true)(h:Canon l):Canon (ins c m l):=by
 induction l with
 |nil=>
  simp only[ins];split
  ·exact Canon.nil
  ·rename_i h0;exact⟨List.pairwise_singleton _ _,λt ht=>by simp at ht;subst ht;exact⟨h0,hm⟩⟩
 |cons s r ih=>
  simp only[ins]
  split
  ·rename_i h1
   split
   ·exact h.tail
   ·rename_i h2;refine⟨List.pairwise_cons.2 ⟨λt ht=>by have:=h.head t ht;rw[h1]at this;exact this,h.tail.1⟩,λt ht=>?_⟩;rcases List.mem_cons.1 ht with rfl|ht
    ·exact⟨h2,hm⟩
    ·exact h.tail.2 t ht
  ·rename_i h1
   split
   ·rename_i h2
    split
    ·exact h
    ·rename_i h3;refine⟨List.pairwise_cons.2 ⟨λt ht=>?_,h.1⟩,λt ht=>?_⟩
     ·rcases List.mem_cons.1 ht with rfl|ht
      ·exact h2
      ·exact Mo.lt_trans (h.head t ht) h2
     ·rcases List.mem_cons.1 ht with rfl|ht
      ·exact⟨h3,hm⟩
      ·exact h.2 t ht
   ·rename_i h2
    have h3:Mo.lt m s.2:=by
     rcases Mo.SS s.2 m with k|k|k
     ·exact absurd k h2
     ·exact absurd k h1
     ·exact k
    have hi:=ih h.tail;refine⟨List.pairwise_cons.2 ⟨λt ht=>?_,hi.1⟩,λt ht=>?_⟩
    ·rcases qnQ ht with k|k
     ·rw[k];exact h3
     ·exact h.head t k
    ·rcases List.mem_cons.1 ht with rfl|ht
     ·exact h.2 t (List.mem_cons_self ..)
     ·exact hi.2 t ht
theorem qyr(c:Int)(m:Mo)(l:List Tm)(q:Mo):aL (ins c m l) q=(if m=q then c else 0)+aL l q:=by
 induction l with
 |nil=>
  simp only[ins];split
  ·rename_i h;subst h;simp[aL]
  ·simp[aL]
 |cons s r ih=>
  simp only[ins]
  split
  ·rename_i h1;subst h1
   split
   ·simp only[aL];split<;>omega
   ·simp only[aL];split<;>omega
  ·split
   ·split
    ·rename_i h;subst h;simp
    ·simp only[aL]
   ·simp only[aL,ih];omega
def norm:List Tm->List Tm
 |[]=>[]
 |t::l=>if t.2.nn then ins t.1 t.2 (norm l)else norm l
theorem sF(l:List Tm):Canon (norm l):=by
 induction l with
 |nil=>exact Canon.nil
 |cons t l ih=>
  simp only[norm];split
  ·rename_i h;exact qyq h ih
  ·exact ih
theorem OC(l:List Tm)(m:Mo):aL (norm l) m=sD l m:=by
 induction l with
 |nil=>simp[norm,aL,sD]
 |cons t l ih=>
  simp only[norm]
  split
  ·rename_i h;rw[qyr,ih];unfold sD
   by_cases h2:t.2=m
   ·subst h2;simp[h,aL]
   ·simp only[aL];rw[ah h2];split<;>omega
  ·rename_i h;rw[ih];unfold sD
   by_cases h2:t.2=m
   ·subst h2;simp[h]
   ·simp only[aL];rw[ah h2];split<;>omega
theorem norm_eq{l r:List Tm}(hr:Canon r)(h:∀m,aL r m=sD l m):r=norm l:=hr.ext (sF l) λm=>by rw[h,OC]
theorem qzA{l r:List Tm}(h:∀m,m.nn=true->aL l m=aL r m):norm l=norm r:=
 norm_eq (sF l) λm=>by rw[OC];unfold sD;split<;>simp_all
theorem qoO(l:List Tm)(m:Mo)(hm:m.nn=true):aL (norm l) m=aL l m:=by rw[OC];unfold sD;rw[ai hm]
theorem qzB{l r:List Tm}(h:norm l=norm r)(m:Mo)(hm:m.nn=true):aL l m=aL r m:=by
 rw[<-qoO l m hm, <-qoO r m hm,h]
theorem qyt(c:Int)(m:Mo)(l:List Tm):aK (ins c m l)<=c.natAbs+aK l:=by
 induction l with
 |nil=>simp only[ins];split<;>simp[aK]
 |cons s r ih=>
  simp only[ins]
  split
  ·split<;>simp only[aK]<;>omega
  ·split
   ·split<;>simp only[aK]<;>omega
   ·simp only[aK];omega
theorem qzC(l:List Tm):aK (norm l)<=aK l:=by
 induction l with
 |nil=>exact aI _
 |cons t l ih=>
  simp only[norm,aK];split
  ·exact aR (qyt _ _ _) (by omega)
  ·omega
theorem qoP{l:List Tm}{t:Tm}(h:t∈norm l):∃s∈l,s.2=t.2:=by
 induction l with
 |nil=>cases h
 |cons s l ih=>
  simp only[norm]at h
  split at h
  ·rcases qnQ h with h|h
   ·exact⟨s,List.mem_cons_self ..,h.symm⟩
   ·obtain⟨q,hq,e⟩:=ih h;exact⟨q,List.mem_cons_of_mem _ hq,e⟩
  ·obtain⟨q,hq,e⟩:=ih h;exact⟨q,List.mem_cons_of_mem _ hq,e⟩
theorem qtj{st r:List Tm}(hd:st.Pairwise (λs t=>s.2≠t.2))(hn:∀t∈st,t.2.nn=true)(hp:r.Perm (st.filter λt=>decide (t.1≠0)))(hs:r.Pairwise (λs t=>¬Mo.lt s.2 t.2)):
 Canon r/\∀m,aL r m=aL st m:=by
 have tK:r.Pairwise (λs t=>s.2≠t.2):=(hp.symm.pairwise_iff (λh=>Ne.symm h)).1 (hd.filter _);refine⟨⟨?_,λt ht=>?_⟩,λm=>?_⟩
 ·refine(hs.and tK).imp ?_;rintro s t ⟨h1,h2⟩;rcases Mo.SS s.2 t.2 with k|k|k
  ·exact absurd k h1
  ·exact absurd k h2
  ·exact k
 ·have:=(hp.mem_iff).1 ht;simp only[List.mem_filter,decide_eq_true_eq]at this;exact⟨this.2,hn t this.1⟩
 ·rw[qbb hp];clear hp hs tK hd hn
  induction st with
  |nil=>rfl
  |cons t l ih=>
   simp only[List.filter_cons]
   split
   ·simp only[aL,ih]
   ·rename_i h0
    have:t.1=0:=by simpa using h0
    simp only[aL,ih,this];split<;>omega
end Go.Proofs.YtmcfpnmoklnhoaaGreat
namespace Go.Proofs.YtmcfpnmoklnhoaaGreat
open Go.RowKit
abbrev lL(m:Mo):Value:=.agg #[.int .i64 m.a,.int .i64 m.b,.int .i64 m.c,.int .i64 m.d]
theorem I9{P:Program}{f:FuncId}{args:Array Value}{w:World}{n:Nat}{v:Value}
 (h:Calls P f args (w.drewN n) λe w'=>e=.returned v/\w.drewN n=w'):Calls P f args (w.drewN n) λe w''=>e=.returned v/\∃m,w''=w.drewN m:=
 h.mono λ_ _⟨he,hm⟩=>⟨he,n,hm.symm⟩
theorem Ov(x:Int)(w:World):Calls Tryz.prog 203 #[.int .i64 x] w λe w'=>e=.returned (.bool false)/\w=w':=by
 have h:(x !=x)=false:=by simp
 go_enter Tryz.func203,Tryz.ntmps203
 go_wp2;go_ret;exact⟨rfl,rfl⟩
theorem GV(x y:Int)(w:World):Calls Tryz.prog 181 #[.int .i64 x,.int .i64 y] w λe w'=>e=.returned (.int .i64 (jL x y))/\w=w':=by
 rcases Int.lt_trichotomy x y with h|h|h
 ·have H:Hid (jL x y= -1):=Ni h
  go_enter Tryz.func181,Tryz.ntmps181
  go_wp2_with (fail);refine(Ov x _).mono ?_;rintro e w' ⟨rfl,rfl⟩;go_wp2_with (fail);refine(Ov y _).mono ?_;rintro e w' ⟨rfl,rfl⟩;go_wp2;go_ret;exact⟨by rw[H.out];rfl,rfl⟩
 ·subst h
  have H:Hid (jL x x=0):=by show _=_;unfold jL;rw[ah (by omega),ah (by omega)]
  have l1:¬x<x:=by omega
  go_enter Tryz.func181,Tryz.ntmps181
  go_wp2_with (fail);refine(Ov x _).mono ?_;rintro e w' ⟨rfl,rfl⟩;go_wp2_with (fail);refine(Ov x _).mono ?_;rintro e w' ⟨rfl,rfl⟩;go_wp2;go_ret;exact⟨by rw[H.out];rfl,rfl⟩
 ·have H:Hid (jL x y=1):=Nh h
  have l1:¬x<y:=by omega
  go_enter Tryz.func181,Tryz.ntmps181
  go_wp2_with (fail);refine(Ov x _).mono ?_;rintro e w' ⟨rfl,rfl⟩;go_wp2_with (fail);refine(Ov y _).mono ?_;rintro e w' ⟨rfl,rfl⟩;go_wp2;go_ret;exact⟨by rw[H.out];rfl,rfl⟩
theorem qeT(m:Mo)(w:World):Calls Tryz.prog 167 #[lL m] w λe w'=>e=.returned (.bool (!m.nn))/\Ext w w':=by
 obtain⟨a,b,c,d⟩:=m;have hE:Hid (Ext w (w.alloc (.cells #[.int .i64 a,.int .i64 b,.int .i64 c,.int .i64 d] 127))):=(aA w).alloc _
 have i0:∀w,(Instr.index 127 (.agg #[.int .i64 a,.int .i64 b,.int .i64 c,.int .i64 d]) (.int .i64 0)).run Tryz.prog w=.ok (.int .i64 a) w:=λ_=>by kernel_rfl
 have i1:∀w,(Instr.index 127 (.agg #[.int .i64 a,.int .i64 b,.int .i64 c,.int .i64 d]) (.int .i64 1)).run Tryz.prog w=.ok (.int .i64 b) w:=λ_=>by kernel_rfl
 have i2:∀w,(Instr.index 127 (.agg #[.int .i64 a,.int .i64 b,.int .i64 c,.int .i64 d]) (.int .i64 2)).run Tryz.prog w=.ok (.int .i64 c) w:=λ_=>by kernel_rfl
 have i3:∀w,(Instr.index 127 (.agg #[.int .i64 a,.int .i64 b,.int .i64 c,.int .i64 d]) (.int .i64 3)).run Tryz.prog w=.ok (.int .i64 d) w:=λ_=>by kernel_rfl
 by_cases h0:a<0
 ·have H:Hid ((!Mo.nn ⟨a,b,c,d⟩)=true):=by show _=_;unfold Mo.nn;simp[show¬(0<=a)from by omega]
  go_enter Tryz.func167,Tryz.ntmps167
  go_wp2;refine wp_loop_rounds 1 ?_;rw[rounds_succ];go_wp2;go_ret;exact⟨by rw[H.out];rfl,hE.out⟩
 by_cases h1:b<0
 ·have H:Hid ((!Mo.nn ⟨a,b,c,d⟩)=true):=by show _=_;unfold Mo.nn;simp[show¬(0<=b)from by omega]
  go_enter Tryz.func167,Tryz.ntmps167
  go_wp2;refine wp_loop_rounds 2 ?_;rw[rounds_succ];go_wp2;rw[rounds_succ];go_wp2;go_ret;exact⟨by rw[H.out];rfl,hE.out⟩
 by_cases h2:c<0
 ·have H:Hid ((!Mo.nn ⟨a,b,c,d⟩)=true):=by show _=_;unfold Mo.nn;simp[show¬(0<=c)from by omega]
  go_enter Tryz.func167,Tryz.ntmps167
  go_wp2;refine wp_loop_rounds 3 ?_;rw[rounds_succ];go_wp2;rw[rounds_succ];go_wp2;rw[rounds_succ];go_wp2;go_ret;exact⟨by rw[H.out];rfl,hE.out⟩
 by_cases h3:d<0
 ·have H:Hid ((!Mo.nn ⟨a,b,c,d⟩)=true):=by show _=_;unfold Mo.nn;simp[show¬(0<=d)from by omega]
  go_enter Tryz.func167,Tryz.ntmps167
  go_wp2;refine wp_loop_rounds 4 ?_;rw[rounds_succ];go_wp2;rw[rounds_succ];go_wp2;rw[rounds_succ];go_wp2;rw[rounds_succ];go_wp2;go_ret;exact⟨by rw[H.out];rfl,hE.out⟩
 have H:Hid ((!Mo.nn ⟨a,b,c,d⟩)=false):=by show _=_;unfold Mo.nn;simp[show 0<=a from by omega,show 0<=b from by omega,show 0<=c from by omega,show 0<=d from by omega]
 go_enter Tryz.func167,Tryz.ntmps167
 go_wp2;refine wp_loop_rounds 5 ?_;rw[rounds_succ];go_wp2;rw[rounds_succ];go_wp2;rw[rounds_succ];go_wp2;rw[rounds_succ];go_wp2;rw[rounds_succ];go_wp2;go_ret;exact⟨by rw[H.out];rfl,hE.out⟩
theorem VE{x y:Mo}(h:Mo.lt x y):rq x y= -1:=by unfold rq;rw[ai h]
theorem VD{x y:Mo}(h:Mo.lt y x):rq x y=1:=by unfold rq;rw[ah (Mo.lt_asymm h),ai h]
theorem qtA(x y:Mo)(h:x.d≠y.d):rq x y=jL x.d y.d:=by
 by_cases hlt:x.d<y.d
 ·rw[VE (by unfold Mo.lt;omega),Ni hlt]
 ·rw[VD (by unfold Mo.lt;omega),Nh (by omega)]
theorem qtz(x y:Mo)(h0:x.d=y.d)(h:x.c≠y.c):rq x y=jL x.c y.c:=by
 by_cases hlt:x.c<y.c
 ·rw[VE (by unfold Mo.lt;omega),Ni hlt]
 ·rw[VD (by unfold Mo.lt;omega),Nh (by omega)]
theorem qty(x y:Mo)(h0:x.d=y.d)(h1:x.c=y.c)(h:x.b≠y.b):rq x y=jL x.b y.b:=by
 by_cases hlt:x.b<y.b
 ·rw[VE (by unfold Mo.lt;omega),Ni hlt]
 ·rw[VD (by unfold Mo.lt;omega),Nh (by omega)]
theorem qtx(x y:Mo)(h0:x.d=y.d)(h1:x.c=y.c)(h2:x.b=y.b)(h:x.a≠y.a):rq x y=jL x.a y.a:=by
 by_cases hlt:x.a<y.a
 ·rw[VE (by unfold Mo.lt;omega),Ni hlt]
 ·rw[VD (by unfold Mo.lt;omega),Nh (by omega)]
theorem VH{x y:Int}(h:x≠y):(jL x y !=0)=true:=by
 unfold jL
 by_cases h1:x<y
 ·rw[ai h1];rfl
 ·rw[ah h1,ai (by omega)];rfl
theorem VI(x:Int):jL x x=0:=by unfold jL;rw[ah (by omega),ah (by omega)]
def Qe(x y:Mo)(k:Nat):Prop:=(k<4->x.d=y.d)/\(k<3->x.c=y.c)/\(k<2->x.b=y.b)/\(k<1->x.a=y.a)
def Gr(w w':World):Prop:=∃q os,w'=Go.Sort.grow (w.drewN q) os
theorem Gr.refl(w:World):Gr w w:=⟨0,#[],by rw[Go.Sort.grow_empty];rfl⟩
theorem Gr.alloc{a w:World}(h:Gr a w)(o:Obj):Gr a (w.alloc o):=by
 obtain⟨q,os,rfl⟩:=h;exact⟨q,os++ #[o],by rw[Go.Sort.alloc_eq_grow,Go.Sort.grow_grow]⟩
theorem Gr.drewN{a w:World}(h:Gr a w)(n:Nat):Gr a (w.drewN n):=by
 obtain⟨q,os,rfl⟩:=h;exact⟨q+n,os,by rw[<-World.drewN_drewN];rfl⟩
theorem Gr.trans{a b c:World}(h:Gr a b)(k:Gr b c):Gr a c:=by
 obtain⟨q2,os2,rfl⟩:=k;obtain⟨q,os,h2⟩:=h.drewN q2;exact⟨q,os++os2,by rw[h2,Go.Sort.grow_grow]⟩
theorem Gr.ext{a b:World}(h:Gr a b):Ext a b:=by
 obtain⟨q,os,rfl⟩:=h;exact⟨rfl,rfl,rfl,by rw[Go.Sort.size_grow];exact Nat.le_add_right _ _,λk hk=>Go.Sort.heap_grow_old (a.drewN q) os hk⟩
theorem qBu(x y:Mo)(w:World):Calls Tryz.prog 157 #[lL x,lL y] w λe w'=>e=.returned (.int .i64 (rq x y))/\Gr w w':=by
 have hE:Gr w ((w.alloc (.cells #[.int .i64 x.a,.int .i64 x.b,.int .i64 x.c,.int .i64 x.d] 127)).alloc (.cells #[.int .i64 y.a,.int .i64 y.b,.int .i64 y.c,.int .i64 y.d] 127)):=((Gr.refl w).alloc _).alloc _
 go_enter Tryz.func157,Tryz.ntmps157
 go_wp2
 go_loopw [5] (λi wr=>∃k:Nat,k<=4/\i=.int .i64 ((k:Int)-1)/\Qe x y k/\Hid (Gr ((w.alloc (.cells #[.int .i64 x.a,.int .i64 x.b,.int .i64 x.c,.int .i64 x.d] 127)).alloc (.cells #[.int .i64 y.a,.int .i64 y.b,.int .i64 y.c,.int .i64 y.d] 127)) wr)) (λi _=>((intOf i)+1).toNat)
 case atStart=>exact⟨4,aI _,rfl,⟨by omega,by omega,by omega,by omega⟩,Gr.refl _⟩
 case round=>
  obtain⟨k,hk,rfl,hq,he⟩:=hrel;obtain⟨gW,KJ⟩:=ER he.out.ext;have HE:=ae (hE.trans he.out);clear hE
  match k,hk,hq with
  |0,_,hq=>
   have H:Hid (rq x y=0):=(qtB x y).2 (Mo.ext' (hq.2.2.2 (by omega)) (hq.2.2.1 (by omega)) (hq.2.1 (by omega)) (hq.1 (by omega)));clear hq;go_wp2;go_ret;exact⟨by rw[H.out];rfl,HE.out⟩
  |1,_,hq=>
   have z0:((1:Nat):Int)-1=0:=by decide
   rw[z0]
   by_cases h:x.a=y.a
   ·have H:Hid (Qe x y 0):=⟨λ_=>hq.1 (by omega),λ_=>hq.2.1 (by omega),λ_=>hq.2.2.1 (by omega),λ_=>h⟩
    have hz:jL x.a y.a=0:=by rw[h,VI]
    have bf:∀W,Calls Tryz.prog 181 #[.int .i64 x.a,.int .i64 y.a] W λe w'=>e=.returned (.int .i64 0)/\W=w':=λW=>by have:=GV x.a y.a W;rw[hz]at this;exact this
    have aW:=ae bf;clear hq h hz bf z0;go_wp2
    go_quiet ((go_at_call 181;exact I9 (aW.out _)))
    go_wp2
    go_roundw
    case rel=>exact⟨0,by omega,by go_num,H.out,by show Gr _ _;exact he.out.drewN _⟩
    case measure=>simp[intOf]
   ·have H:Hid (rq x y=jL x.a y.a):=qtx x y (hq.1 (by omega)) (hq.2.1 (by omega)) (hq.2.2.1 (by omega)) h;have hz:=VH h;clear hq h z0;go_wp2
    go_quiet ((go_at_call 181;exact I9 (GV _ _ _)))
    go_wp2;go_ret;exact⟨by rw[H.out];rfl,HE.out.drewN _⟩
  |2,_,hq=>
   have z0:((2:Nat):Int)-1=1:=by decide
   rw[z0]
   by_cases h:x.b=y.b
   ·have H:Hid (Qe x y 1):=⟨λ_=>hq.1 (by omega),λ_=>hq.2.1 (by omega),λ_=>h,by omega⟩
    have hz:jL x.b y.b=0:=by rw[h,VI]
    have bf:∀W,Calls Tryz.prog 181 #[.int .i64 x.b,.int .i64 y.b] W λe w'=>e=.returned (.int .i64 0)/\W=w':=λW=>by have:=GV x.b y.b W;rw[hz]at this;exact this
    have aW:=ae bf;clear hq h hz bf z0;go_wp2
    go_quiet ((go_at_call 181;exact I9 (aW.out _)))
    go_wp2
    go_roundw
    case rel=>exact⟨1,by omega,by go_num,H.out,by show Gr _ _;exact he.out.drewN _⟩
    case measure=>simp[intOf]
   ·have H:Hid (rq x y=jL x.b y.b):=qty x y (hq.1 (by omega)) (hq.2.1 (by omega)) h;have hz:=VH h;clear hq h z0;go_wp2
    go_quiet ((go_at_call 181;exact I9 (GV _ _ _)))
    go_wp2;go_ret;exact⟨by rw[H.out];rfl,HE.out.drewN _⟩
  |3,_,hq=>
   have z0:((3:Nat):Int)-1=2:=by decide
   rw[z0]
   by_cases h:x.c=y.c
   ·have H:Hid (Qe x y 2):=⟨λ_=>hq.1 (by omega),λ_=>h,by omega,by omega⟩
    have hz:jL x.c y.c=0:=by rw[h,VI]
    have bf:∀W,Calls Tryz.prog 181 #[.int .i64 x.c,.int .i64 y.c] W λe w'=>e=.returned (.int .i64 0)/\W=w':=λW=>by have:=GV x.c y.c W;rw[hz]at this;exact this
    have aW:=ae bf;clear hq h hz bf z0;go_wp2
    go_quiet ((go_at_call 181;exact I9 (aW.out _)))
    go_wp2
    go_roundw
    case rel=>exact⟨2,by omega,by go_num,H.out,by show Gr _ _;exact he.out.drewN _⟩
    case measure=>simp[intOf]
   ·have H:Hid (rq x y=jL x.c y.c):=qtz x y (hq.1 (by omega)) h;have hz:=VH h;clear hq h z0;go_wp2
    go_quiet ((go_at_call 181;exact I9 (GV _ _ _)))
    go_wp2;go_ret;exact⟨by rw[H.out];rfl,HE.out.drewN _⟩
  |4,_,hq=>
   have z0:((4:Nat):Int)-1=3:=by decide
   rw[z0]
   by_cases h:x.d=y.d
   ·have H:Hid (Qe x y 3):=⟨λ_=>h,by omega,by omega,by omega⟩
    have hz:jL x.d y.d=0:=by rw[h,VI]
    have bf:∀W,Calls Tryz.prog 181 #[.int .i64 x.d,.int .i64 y.d] W λe w'=>e=.returned (.int .i64 0)/\W=w':=λW=>by have:=GV x.d y.d W;rw[hz]at this;exact this
    have aW:=ae bf;clear hq h hz bf z0;go_wp2
    go_quiet ((go_at_call 181;exact I9 (aW.out _)))
    go_wp2
    go_roundw
    case rel=>exact⟨3,by omega,by go_num,H.out,by show Gr _ _;exact he.out.drewN _⟩
    case measure=>simp[intOf]
   ·have H:Hid (rq x y=jL x.d y.d):=qtA x y h;have hz:=VH h;clear hq h z0;go_wp2
    go_quiet ((go_at_call 181;exact I9 (GV _ _ _)))
    go_wp2;go_ret;exact⟨by rw[H.out];rfl,HE.out.drewN _⟩
theorem Tryz.qnP:(Tryz.prog.info? 3).map (λi=>(i.zero,i.size,i.bytes))=some (some (.int .i64 0),1,8):=by kernel_rfl
theorem qyv:Tryz.prog.cellsOf 3=1:=by kernel_rfl
theorem qyu(w:World):(isAgg 3).run Tryz.prog w=.ok false w:=by kernel_rfl
theorem qnS(cs:Array Value)(o:Nat)(x:Value)(w:World)(h:cs[o]?=some x):(part 3 cs o).run Tryz.prog w=.ok x w:=by
 simp only[part,Sem.run_bind,qyu,Result.andThen_ok];simp[h,go_sem]
theorem VZ(xs ys:Array Value)(j:Nat)(is:List Nat)(a b:Int)(w:World)(hx:xs[j]?=some (.int .i64 a))(hy:ys[j]?=some (.int .i64 b)):
 (Op.eqItems 9999 3 1 xs ys (j::is)).run Tryz.prog w=if a=b then(Op.eqItems 9999 3 1 xs ys is).run Tryz.prog w else .ok false w:=by
 have e0:=run_equalIn_int (P:=Tryz.prog) w 9998 3 .i64 .i64 a b Tryz.underlying3;simp only[Op.eqItems,Sem.run_bind,Nat.mul_one];rw[qnS _ _ _ w hx,Result.andThen_ok,qnS _ _ _ w hy,Result.andThen_ok,e0,Result.andThen_ok]
 by_cases h:a=b
 ·simp[h]
 ·simp[h,go_sem]
theorem qjE(x y:Mo)(w:World):(Op.equal 127 (lL x) (lL y)).run Tryz.prog w=.ok (decide (x=y)) w:=by
 obtain⟨i0,hi,hz0,hz1,hz2⟩:=info_parts Tryz.qnP
 cases x with|mk xa xb xc xd=>cases y with|mk ya yb yc yd=>
 show(Op.equalIn (9999+1) 127 (.agg #[.int .i64 xa,.int .i64 xb,.int .i64 xc,.int .i64 xd]) (.agg #[.int .i64 ya,.int .i64 yb,.int .i64 yc,.int .i64 yd])).run Tryz.prog w=_;rw[run_equalIn_array w 9999 _ _ Tryz.underlying127 hi,qyv,show List.range 4=[0,1,2,3]from rfl];rw[VZ _ _ 0 _ xa ya w rfl rfl,VZ _ _ 1 _ xb yb w rfl rfl,VZ _ _ 2 _ xc yc w rfl rfl,VZ _ _ 3 _ xd yd w rfl rfl]
 by_cases h1:xa=ya<;>by_cases h2:xb=yb<;>by_cases h3:xc=yc<;>by_cases h4:xd=yd<;>simp[h1,h2,h3,h4,Op.eqItems,go_sem]
theorem qa7(em:Bool)(x:Mo)(w:World):(Instr.checkKey em 10000 127 (lL x)).run Tryz.prog w=.ok () w:=by
 kernel_rfl
def rR(m:Nat->Mo)(i:Nat):MapEntry:={key:=lL (m i),val:=.int .i64 i,born:=i}
def l5(m:Nat->Mo)(n:Nat):List MapEntry:=(List.range n).map (rR m)
def pO(w:World)(r n:Nat)(m:Nat->Mo):Prop:=w.heap[r]?=some (.map (l5 m n).toArray n)
theorem qjY(m:Nat->Mo)(k:Mo)(w:World)(l:Nat):∀(s:Nat)(hs:∀j,s<=j->j<s+l->m j≠k)(tl:List MapEntry),
 (Instr.findAsking 127 (lL k) ((List.range' s l).map (rR m)++tl) s).run Tryz.prog w=(Instr.findAsking 127 (lL k) tl (s+l)).run Tryz.prog w:=by
 induction l with
 |zero=>intro s _ tl;simp
 |succ l ih=>
  intro s hs tl;rw[List.range'_succ,List.map_cons,List.cons_append];simp only[Instr.findAsking,Sem.run_bind];show((Op.equal 127 (lL k) (lL (m s))).run Tryz.prog w).andThen _=_;rw[qjE,Result.andThen_ok,decide_eq_false (λe=>hs s (aI _) (by omega) e.symm)];simp only[Bool.false_eq_true,if_false];rw[ih (s+1) (λj h1 h2=>hs j (by omega) (by omega)) tl,show s+1+l=s+(l+1)from by omega]
theorem qjZ(m:Nat->Mo)(k:Mo)(w:World)(n:Nat)(h:∀j,j<n->m j≠k):(Instr.findAsking 127 (lL k) (l5 m n) 0).run Tryz.prog w=.ok none w:=by
 have:=qjY m k w n 0 (λj _ h2=>h j (by omega)) [];rw[List.append_nil, <-List.range_eq_range']at this;rw[show l5 m n=(List.range n).map (rR m)from rfl,this];simp[Instr.findAsking,go_sem]
theorem qvo(m:Nat->Mo)(k:Mo)(w:World)(n i:Nat)(hi:i<n)(hk:m i=k)(h:∀j,j<i->m j≠k):(Instr.findAsking 127 (lL k) (l5 m n) 0).run Tryz.prog w=.ok (some (i,.int .i64 i)) w:=by
 have qxU:l5 m n=(List.range' 0 i).map (rR m)++(rR m i::(List.range' (i+1) (n-i-1)).map (rR m)):=by
  unfold l5;rw[List.range_eq_range',show n=i+((n-i-1)+1)from by omega, <-List.range'_append_1,List.map_append,Nat.zero_add,List.range'_succ,List.map_cons];simp only[show i+(n-i-1+1)-i-1=n-i-1 from by omega]
 rw[qxU,qjY m k w i 0 (λj _ h2=>h j (by omega)) _,Nat.zero_add];simp only[Instr.findAsking,Sem.run_bind];show((Op.equal 127 (lL k) (lL (m i))).run Tryz.prog w).andThen _=_;rw[qjE,Result.andThen_ok,decide_eq_true hk.symm];simp[go_sem,rR]
theorem qbJ(m:Nat->Mo)(k:Mo)(w:World)(n:Nat):(Instr.findKey 127 (lL k) (l5 m n)).run Tryz.prog w=(Instr.findAsking 127 (lL k) (l5 m n) 0).run Tryz.prog w:=by
 simp only[Instr.findKey,Sem.run_bind,run_underlying Tryz.underlying127,Result.andThen_ok]
 cases n with
 |zero=>simp[l5,Instr.findNow,Instr.findAsking,go_sem]
 |succ n=>
  have:l5 m (n+1)=rR m 0::(List.range' 1 n).map (rR m):=by
   unfold l5;rw[List.range_eq_range',List.range'_succ,List.map_cons]
  rw[this];simp[Instr.findNow,Instr.sameNow,rR]
theorem qyV{w:World}{r n:Nat}{m:Nat->Mo}(h:pO w r n m)(k:Mo)(i:Nat)(hi:i<n)(hk:m i=k)(hj:∀j,j<i->m j≠k):
 (Instr.lookup 188 (.map (some r)) (lL k) true).run Tryz.prog w=.ok (.tuple #[.int .i64 i,.bool true]) w:=by
 unfold pO at h;simp only[Instr.lookup,Sem.run_bind,run_underlying Tryz.underlying188,Result.andThen_ok]
 have hg:(getObj r).run Tryz.prog w=.ok (.map (l5 m n).toArray n) w:=by simp[getObj,Sem.run,h]
 simp only[hg,Result.andThen_ok,Sem.run_bind,Sem.run_pure,qa7,qbJ,qvo m k w n i hi hk hj,if_true]
theorem qyW{w:World}{r n:Nat}{m:Nat->Mo}(h:pO w r n m)(k:Mo)(hj:∀j,j<n->m j≠k):
 (Instr.lookup 188 (.map (some r)) (lL k) true).run Tryz.prog w=.ok (.tuple #[.int .i64 0,.bool false]) w:=by
 unfold pO at h
 have hz:(zeroValue 3).run Tryz.prog w=.ok (.int .i64 0) w:=by kernel_rfl
 simp only[Instr.lookup,Sem.run_bind,run_underlying Tryz.underlying188,Result.andThen_ok]
 have hg:(getObj r).run Tryz.prog w=.ok (.map (l5 m n).toArray n) w:=by simp[getObj,Sem.run,h]
 simp only[hg,Result.andThen_ok,Sem.run_bind,Sem.run_pure,qa7,qbJ,qjZ m k w n hj,hz,if_true]
def lS(m:Nat->Mo)(n:Nat)(k:Mo):Nat->Mo:=λi=>if i=n then k else m i
def World.BS(w:World)(r:Nat)(o:Obj):World:={w with heap:=w.heap.setIfInBounds r o}
theorem qCw{w:World}{r n:Nat}{m:Nat->Mo}(h:pO w r n m)(k:Mo)(hj:∀j,j<n->m j≠k):
 (Instr.mapUpdate 188 (.map (some r)) (lL k) (.int .i64 n)).run Tryz.prog w=.ok () (World.BS w r (.map (l5 (lS m n k) (n+1)).toArray (n+1))):=by
 have h':=h;unfold pO at h;simp only[Instr.mapUpdate,Sem.run_bind,run_underlying Tryz.underlying188,Result.andThen_ok]
 have hg:(getObj r).run Tryz.prog w=.ok (.map (l5 m n).toArray n) w:=by simp[getObj,Sem.run,h]
 simp only[hg,Result.andThen_ok,Sem.run_bind,Sem.run_pure,qa7,qbJ,qjZ m k w n hj]
 have he:(l5 m n).toArray.push {key:=lL k,val:=.int .i64 n,born:=n}=(l5 (lS m n k) (n+1)).toArray:=by
  unfold l5;rw[List.range_succ,List.map_append];simp only[List.push_toArray]
  congr 1
  congr 1
  ·apply List.map_congr_left;intro i hi
   have:i≠n:=by simp at hi;omega
   simp[rR,lS,this]
  ·simp[rR,lS]
 rw[he];simp[setObj,Sem.run,h,World.BS]
theorem qy6{w:World}{r n:Nat}{m:Nat->Mo}(hr:r<w.heap.size):pO (World.BS w r (.map (l5 m n).toArray n)) r n m:=by
 unfold pO World.BS;simp[hr]
theorem qeO(w:World)(r b:Nat)(o:Obj)(h:b≠r):(World.BS w r o).heap[b]?=w.heap[b]?:=by
 unfold World.BS;simp only[Array.getElem?_setIfInBounds];rw[ah (λe=>h e.symm)]
theorem qj7(w:World)(r:Nat)(o:Obj):w.grownBy (World.BS w r o) (some r):=
 ⟨rfl,rfl,rfl,by simp[World.BS],λk _ hk=>qeO w r k o (λe=>hk (by rw[e]))⟩
theorem pO.lt{w:World}{r n:Nat}{m:Nat->Mo}(h:pO w r n m):r<w.heap.size:=by
 unfold pO at h;exact(Array.getElem?_eq_some_iff.1 h).1
theorem pO.of_heap{w w':World}{r n:Nat}{m:Nat->Mo}(h:pO w r n m)(he:w'.heap[r]?=w.heap[r]?):pO w' r n m:=by unfold pO at*;rw[he];exact h
attribute [local go_sem ↓] Go.wp_at_zero Go.wp_at_succ
def mX(c0 c1:Nat->Value)(m:Nat->Mo):Nat->Value:=λj=>
 if j%6=0 then c0 (j/6)else if j%6=1 then c1 (j/6)else if j%6=2 then .int .i64 (m (j/6)).a else if j%6=3 then .int .i64 (m (j/6)).b else if j%6=4 then .int .i64 (m (j/6)).c else .int .i64 (m (j/6)).d
section
variable(c0 c1:Nat->Value)(m:Nat->Mo)(i:Nat)
theorem OW:mX c0 c1 m (i*6)=c0 i:=by unfold mX;rw[show i*6%6=0 from by omega,show i*6/6=i from by omega];rfl
theorem OX:mX c0 c1 m (i*6+1)=c1 i:=by unfold mX;rw[show(i*6+1)%6=1 from by omega,show(i*6+1)/6=i from by omega];rfl
theorem TA:mX c0 c1 m (i*6+2)=.int .i64 (m i).a:=by unfold mX;rw[show(i*6+2)%6=2 from by omega,show(i*6+2)/6=i from by omega];rfl
theorem TC:mX c0 c1 m (i*6+3)=.int .i64 (m i).b:=by unfold mX;rw[show(i*6+3)%6=3 from by omega,show(i*6+3)/6=i from by omega];rfl
theorem TD:mX c0 c1 m (i*6+4)=.int .i64 (m i).c:=by unfold mX;rw[show(i*6+4)%6=4 from by omega,show(i*6+4)/6=i from by omega];rfl
theorem TF:mX c0 c1 m (i*6+5)=.int .i64 (m i).d:=by unfold mX;rw[show(i*6+5)%6=5 from by omega,show(i*6+5)/6=i from by omega];rfl
end
def GM(M:Nat->Prop)(g r:Nat)(tv:Value):Nat->Prop:=λb=>M b\/b=g\/b=r\/tv.ownBlock=some b
def rE(M:Nat->Prop)(base:Nat)(w:World)(g n:Nat)(z:Nat->Int)(m:Nat->Mo):Prop:=
 ∃(r:Nat)(tv:Value)(c0 c1:Nat->Value),aG w g 190 2 (arr #[.map (some r),tv])/\base<=g/\base<=r/\r≠g/\tv.ownBlock≠some g/\tv.ownBlock≠some r/\pO w r n m/\
  Own w base 129 6 tv n (mX c0 c1 m)/\(∀i,i<n->ek (GM M g r tv) w (c0 i) (c1 i) (z i))/\n<=1099511627776
theorem rE.ext{M:Nat->Prop}{base:Nat}{w w':World}{g n:Nat}{z:Nat->Int}{m:Nat->Mo}(h:rE M base w g n z m)(he:Ext w w'):rE M base w' g n z m:=by
 obtain⟨r,tv,c0,c1,h1,h2,h3,h4,h5,h6,h7,h8,h9,QN⟩:=h;exact⟨r,tv,c0,c1,h1.ext he,h2,h3,h4,h5,h6,h7.of_heap (he.heap h7.lt),h8.ext he,λi hi=>(h9 i hi).ext he,QN⟩
theorem rE.lt{M:Nat->Prop}{base:Nat}{w:World}{g n:Nat}{z:Nat->Int}{m:Nat->Mo}(h:rE M base w g n z m):base<=g/\g<w.heap.size:=by
 obtain⟨r,tv,c0,c1,h1,h2,_⟩:=h;exact⟨h2,h1.lt⟩
def ug(w:World)(g b:Nat):Prop:=b=g\/w.cell? ⟨g,0,none⟩=some (.map (some b))\/∃v:Value,w.cell? ⟨g,1,none⟩=some v/\v.ownBlock=some b
def Fr(g:Nat)(w w':World):Prop:=w.heap.size<=w'.heap.size/\(∀b,b<w.heap.size->¬ug w g b->w'.heap[b]?=w.heap[b]?)/\(∀b,ug w' g b->ug w g b\/w.heap.size<=b)/\w'.cell? ⟨g,0,none⟩=w.cell? ⟨g,0,none⟩
theorem ug.ext{w w':World}(he:Ext w w'){g b:Nat}(hg:g<w.heap.size)(h:ug w' g b):ug w g b:=by
 unfold ug at*;rw[he.cell hg,he.cell hg]at h;exact h
theorem Fr.kV{g:Nat}{w w':World}(hg:g<w.heap.size)(he:Ext w w'):Fr g w w':=⟨he.size,λb hb _=>he.heap hb,λ_ h=>.inl (h.ext he hg),he.cell hg⟩
theorem Fr.trans{g:Nat}{a b c:World}(h:Fr g a b)(k:Fr g b c):Fr g a c:=by
 refine⟨aR h.1 k.1,λq hq hn=>?_,λq hq=>?_,k.2.2.2.trans h.2.2.2⟩
 ·rw[k.2.1 q (dH hq h.1) (λhb=>(h.2.2.1 q hb).elim hn (by omega)),h.2.1 q hq hn]
 ·rcases k.2.2.1 q hq with h1|h1
  ·exact h.2.2.1 q h1
  ·right;have:=h.1;omega
theorem aG.yT{w:World}{g:Nat}{t:TypeId}{r:Nat}{tv:Value}(h:aG w g t 2 (arr #[.map (some r),tv]))(b:Nat):ug w g b↔b=g\/b=r\/tv.ownBlock=some b:=by
 unfold ug;rw[h.cell (i:=0) (by omega),h.cell (i:=1) (by omega)];simp only[arr,Option.some.injEq];constructor
 ·rintro(h|h|⟨v,h1,h2⟩)
  ·exact .inl h
  ·simp at h;exact .inr (.inl h.symm)
  ·simp at h1;subst h1;exact .inr (.inr h2)
 ·rintro(h|h|h)
  ·exact .inl h
  ·subst h;exact .inr (.inl (by simp))
  ·exact .inr (.inr ⟨tv,by simp,h⟩)
theorem rE.yT{M:Nat->Prop}{base:Nat}{w:World}{g n:Nat}{z:Nat->Int}{m:Nat->Mo}(h:rE M base w g n z m){b:Nat}(hb:ug w g b):base<=b/\b<w.heap.size:=by
 obtain⟨r,tv,c0,c1,h1,h2,h3,h4,h5,h6,h7,h8,h9,QN⟩:=h;rcases(h1.yT b).1 hb with rfl|rfl|hb
 ·exact⟨h2,h1.lt⟩
 ·exact⟨h3,h7.lt⟩
 ·exact h8.lt b hb
theorem Fr.hit{g tb o1 o2:Nat}{w w2:World}{u v:Value}(he:Ext w w2)(hg:g<w.heap.size)(hne:g≠tb)(hb:ug w g tb):Fr g w ((w2.setCell ⟨tb,o1,none⟩ u).setCell ⟨tb,o2,none⟩ v):=by
 have hc:∀o,((w2.setCell ⟨tb,o1,none⟩ u).setCell ⟨tb,o2,none⟩ v).cell? ⟨g,o,none⟩=w.cell? ⟨g,o,none⟩:=λo=>by
  rw[<-he.cell hg];refine World.cell?_of_block ?_;show _=w2.heap[g]?;rw[Below.heap_setCell _ _ _ _ hne,Below.heap_setCell _ _ _ _ hne]
 refine⟨by simpa[World.setCell]using he.size,λb hb' hn=>?_,λb hb'=>?_,hc 0⟩
 ·have Fv:b≠tb:=λe=>hn (e ▸ hb);rw[Below.heap_setCell _ _ _ _ Fv,Below.heap_setCell _ _ _ _ Fv,he.heap hb']
 ·left;unfold ug at*;rw[hc,hc]at hb';exact hb'
theorem QH{w w':World}(h:Ext w w'){B:Nat}(hB:B<=w.heap.size):Below B w w':=Below.mono h hB
theorem qvv(M:Nat->Prop)(base g:Nat)(k:Mo)(d0 d1:Value)(c:Int)(w:World)(hI:dQ M w d0 d1 c)(hn:k.nn=false):
 Calls Tryz.prog 147 #[.pointer (some ⟨g,0,none⟩),lL k,.agg #[d0,d1]] w λe w'=>e=.returned (.tuple #[])/\Ext w w':=by
 obtain⟨b1,a1,n1,p1,rfl,rfl⟩:=hI.form
 have j6:(!k.nn)=true:=by simp[hn]
 have bf:=λW=>qeT k W;rw[j6]at bf;have aW:=ae bf;clear bf j6 hn;have hE:Hid (Ext w ((w.alloc (.cells #[.int .i64 k.a,.int .i64 k.b,.int .i64 k.c,.int .i64 k.d] 127)).alloc (.cells #[.bool b1,.slice a1 n1 p1] 30))):=((aA w).alloc _).alloc _
 go_enter Tryz.func147,Tryz.ntmps147
 go_wp2_with (fail);refine(aW.out _).mono ?_;rintro e w1 ⟨rfl,az⟩;go_wp2;refine bu (results_none rfl _ _ _) rfl ?_;exact⟨rfl,hE.out.trans az⟩
def uf(c:Nat->Value)(i:Nat)(u:Value):Nat->Value:=λj=>if j=i then u else c j
theorem qBV(c0 c1:Nat->Value)(m:Nat->Mo)(i:Nat)(u v:Value)(j:Nat):jr (jr (mX c0 c1 m) (i*6) u) (i*6+1) v j=mX (uf c0 i u) (uf c1 i v) m j:=by
 unfold jr mX uf
 by_cases h1:j=i*6+1
 ·subst h1;rw[ai rfl,show(i*6+1)%6=1 from by omega,show(i*6+1)/6=i from by omega];simp
 ·rw[ah h1]
  by_cases h2:j=i*6
  ·subst h2;rw[ai rfl,show(i*6)%6=0 from by omega,show(i*6)/6=i from by omega];simp
  ·rw[ah h2]
   by_cases h3:j%6=0
   ·rw[ai h3,ai h3,ah (by omega)]
   ·rw[ah h3,ah h3]
    by_cases h4:j%6=1
    ·rw[ai h4,ai h4,ah (by omega)]
    ·rw[ah h4,ah h4]
theorem qvE{M:Nat->Prop}{base:Nat}{w1 w2:World}{g n r tb cap i:Nat}{z:Nat->Int}{m:Nat->Mo}{F c0 c1:Nat->Value}{c:Int}{u v:Value}
 (hB:aG w1 g 190 2 (arr #[.map (some r),.slice (some ⟨tb,0,none⟩) n cap])) (xQ:base<=g) (Hw:base<=r) (D8:r≠g) (BA:Value.ownBlock (.slice (some ⟨tb,0,none⟩) n cap)≠some g) (BB:Value.ownBlock (.slice (some ⟨tb,0,none⟩) n cap)≠some r)
 (tH:pO w1 r n m) (Fv:base<=tb) (uz:aG w1 tb 129 (cap*6) F) (Il:n<=cap) (iB:cap<=maxLen) (hF:∀j,j<n*6->F j=mX c0 c1 m j)
 (hC:∀i,i<n->ek (GM M g r (.slice (some ⟨tb,0,none⟩) n cap)) w1 (c0 i) (c1 i) (z i)) (gH:n<=1099511627776) (hi:i<n) (he:Ext w1 w2) (hc:ek (GM M g r (.slice (some ⟨tb,0,none⟩) n cap)) w2 u v (z i+c)):
 rE M base ((w2.setCell ⟨tb,i*6,none⟩ u).setCell ⟨tb,i*6+1,none⟩ v) g n (λj=>if j=i then z j+c else z j) m:=by
 have wT:g≠tb:=λe=>BA (by rw[e];rfl);have gQ:r≠tb:=λe=>BB (by rw[e];rfl);have bD:Kp (GM M g r (.slice (some ⟨tb,0,none⟩) n cap)) w2 ((w2.setCell ⟨tb,i*6,none⟩ u).setCell ⟨tb,i*6+1,none⟩ v):=(Kp.set _ _ (.inr (.inr (.inr rfl))) _).trans (Kp.set _ _ (.inr (.inr (.inr rfl))) _);refine⟨r,.slice (some ⟨tb,0,none⟩) n cap,uf c0 i u,uf c1 i v,((hB.ext he).vT wT _).vT wT _,xQ,Hw,D8,BA,BB,?_,.inr ⟨tb,cap,_,rfl,Fv,(((uz.ext he).set (i*6) u).set (i*6+1) v),Il,iB,λj hj=>?_⟩,λj hj=>?_,gH⟩
 ·refine(tH.of_heap (he.heap tH.lt)).of_heap ?_;rw[Below.heap_setCell _ _ _ _ gQ,Below.heap_setCell _ _ _ _ gQ]
 ·rw[<-qBV];unfold jr
  by_cases h1:j=i*6+1
  ·rw[ai h1,ai h1]
  ·rw[ah h1,ah h1]
   by_cases h2:j=i*6
   ·rw[ai h2,ai h2]
   ·rw[ah h2,ah h2,hF j hj]
 ·by_cases lu:j=i
  ·subst lu;simp only[uf,if_true];exact hc.kp bD
  ·simp only[uf,ah lu];exact((hC j hj).ext he).kp bD
theorem qvt(M:Nat->Prop)(base g n:Nat)(z:Nat->Int)(m:Nat->Mo)(k:Mo)(d0 d1:Value)(c:Int)(w:World)(hM:Mb M w)(hI:dQ M w d0 d1 c)(hG:rE M base w g n z m)(Dy:dQ (λb=>M b\/ug w g b) w d0 d1 c)
 (hn:k.nn=true) (i:Nat) (hi:i<n) (hk:m i=k) (hj:∀j,j<i->m j≠k) (hL:aH ((z i).natAbs+c.natAbs)<=1099511627776):
 Calls Tryz.prog 147 #[.pointer (some ⟨g,0,none⟩),lL k,.agg #[d0,d1]] w λe w'=>e=.returned (.tuple #[])/\rE M base w' g n (λj=>if j=i then z j+c else z j) m/\Below base w w'/\Fr g w w':=by
 obtain⟨b1,a1,n1,p1,rfl,rfl⟩:=hI.form
 have j6:(!k.nn)=false:=by simp[hn]
 have bf:=λW=>qeT k W;rw[j6]at bf;have aW:=ae bf;clear bf j6 hn;have hE:Hid (Ext w ((w.alloc (.cells #[.int .i64 k.a,.int .i64 k.b,.int .i64 k.c,.int .i64 k.d] 127)).alloc (.cells #[.bool b1,.slice a1 n1 p1] 30))):=((aA w).alloc _).alloc _;have HK:=ae hk;have HJ:=ae hj;clear hk hj
 have jE:base<=w.heap.size:=by have:=hG.lt;omega
 go_enter Tryz.func147,Tryz.ntmps147
 go_wp2_with (fail);refine(aW.out _).mono ?_;rintro e w1 ⟨rfl,az⟩;have Ba:=hG.ext (hE.out.trans az);have Wo:=Dy.ext (hE.out.trans az);obtain⟨gW,KJ⟩:=ER az
 have B4:w1.cell? ⟨w.heap.size,0,none⟩=some (.int .i64 k.a)/\w1.cell? ⟨w.heap.size,1,none⟩=some (.int .i64 k.b)/\w1.cell? ⟨w.heap.size,2,none⟩=some (.int .i64 k.c)/\w1.cell? ⟨w.heap.size,3,none⟩=some (.int .i64 k.d)/\w1.cell? ⟨w.heap.size+1,0,none⟩=some (.bool b1)/\w1.cell? ⟨w.heap.size+1,1,none⟩=some (.slice a1 n1 p1):=by
  refine⟨?_,?_,?_,?_,?_,?_⟩<;>(rw[gW _ _ (by simp;try omega)];simp[go_sem])
 obtain⟨x0,x1,x2,x3,y0,y1⟩:=B4;clear gW KJ;obtain⟨r,tv,c0,c1,hB,xQ,Hw,D8,BA,BB,tH,hO,hC,gH⟩:=Ba;obtain⟨tb,cap,F,rfl,Fv,uz,Il,iB,hF⟩:=hO.some (by omega);have xm:Hid (∀b,b=g\/b=r\/Value.ownBlock (.slice (some ⟨tb,0,none⟩) n cap)=some b->ug w g b):=λb hb=>((hB.yT b).2 hb).ext (hE.out.trans az) hG.lt.2;have fA:=hG.lt.2
 have hlk:∀nq,(Instr.lookup 188 (.map (some r)) (.agg #[.int .i64 k.a,.int .i64 k.b,.int .i64 k.c,.int .i64 k.d]) true).run Tryz.prog (w1.drewN nq)=.ok (.tuple #[.int .i64 i,.bool true]) (w1.drewN nq):=λnq=>
  qyV (w:=w1.drewN nq) (by exact tH) k i hi HK.out HJ.out
 have g0:=hB.cell (i:=0) (by omega);have g1:=hB.cell (i:=1) (by omega);simp only[arr]at g0 g1;obtain⟨b2,a2,n2,p2,e20,e21⟩:=(hC i hi).form
 have t0:w1.cell? ⟨tb,i*6,none⟩=some (.bool b2):=by rw[uz.cell (by omega),hF _ (by omega),OW,e20]
 have t1:w1.cell? ⟨tb,i*6+1,none⟩=some (.slice a2 n2 p2):=by rw[uz.cell (by omega),hF _ (by omega),OX,e21]
 have l0:(0:Int)<=(i:Int):=iw _
 have l1:(i:Int)<(n:Int):=by omega
 go_wp2
 go_quiet (fail)
 go_wp2
 have o9:Mb (GM M g r (.slice (some ⟨tb,0,none⟩) n cap)) w1:=by
  intro b hb;rcases hb with hb|rfl|rfl|hb
  ·exact(hM.ext (hE.out.trans az)) b hb
  ·exact hB.lt
  ·exact tH.lt
  ·simp only[Value.ownBlock,Option.some.injEq]at hb;subst hb;exact uz.lt
 have Hf:dQ (GM M g r (.slice (some ⟨tb,0,none⟩) n cap)) w1 (.bool b1) (.slice a1 n1 p1) c:=Wo.more (by
  intro b hb;rcases hb with hb|rfl|rfl|hb
  ·exact .inl (.inl hb)
  ·exact .inl (.inr (xm.out _ (.inl rfl)))
  ·exact .inl (.inr (xm.out _ (.inr (.inl rfl))))
  ·exact .inl (.inr (xm.out _ (.inr (.inr hb)))))
 have hCi:=(hC i hi).fB;rw[e20,e21]at hCi;have HCi:=ae hCi;have Af:=ae Hf;have Gq:=ae o9;have HC:=ae hC;clear hCi Hf o9 hC hlk
 go_region_with (go_at_call 124;refine(qdW (M:=GM M g r (.slice (some ⟨tb,0,none⟩) n cap)) _ _ _ _ (z i) c _ ?_ ?_ ?_ hL).mono ?_;(exact Gq.out.ext ((aA _).drewN _));(exact HCi.out.ext ((aA _).drewN _));(exact Af.out.ext ((aA _).drewN _));rintro e w2 ⟨f0,f1,rfl,hc,aJ⟩;obtain⟨b5,a5,n5,p5,rfl,rfl⟩:=hc.form;have bg:=((aA w1).drewN _).trans aJ;have q0:=kc bg t0;have q1:=kc bg t1;have q2:=kc bg g1;have q3:=(uz.ext bg).frozen (i*6);have q4:=(uz.ext bg).frozen (i*6+1))
 all_goals
  go_wp2;refine bu (results_none rfl _ _ _) rfl ?_;refine⟨rfl,qvE hB xQ Hw D8 BA BB tH Fv uz Il iB hF HC.out gH hi bg hc,?_⟩;exact⟨((QH ((hE.out.trans az).trans bg) jE).setCell Fv _).setCell Fv _,Fr.hit ((hE.out.trans az).trans bg) fA (λe=>BA (by rw[e];rfl)) (xm.out _ (.inr (.inr rfl)))⟩
end Go.Proofs.YtmcfpnmoklnhoaaGreat
namespace Go.Proofs.YtmcfpnmoklnhoaaGreat
open Go.RowKit
attribute [local go_sem ↓] Go.wp_at_zero Go.wp_at_succ
theorem K8{w:World}{r b o:Nat}{x:Obj}{v:Value}(hne:b≠r)(hc:w.cell? ⟨b,o,none⟩=some v):(World.BS w r x).cell? ⟨b,o,none⟩=some v:=by
 rw[World.cell?_of_block (w:=w) (qeO w r b x hne)];exact hc
theorem qBF{P:Program}{ops:Array Oper}{o:Oper}{a:Act}{w:World}{K:Act->World->Prop}{Q:Exit->Act->World->Prop}{E:Prop}(jF:o.guard=none)(f:FuncId)(args:Array Operand)(YD:Array TypeId)
 (ho:o.op=.call {callee:=.value (.func f),args:=args,argTypes:=YD}) (hcf:∀vs w,(callFunc f vs).run P w=.ok (.enter f vs) w) (vs:Array Value) (hv:args.map a.eval=vs) {R:Ending->World->Prop} (hR:Calls P f vs w R)
 (h:∀e w',R e w'->∃v,e=.returned v/\K (a.put o.dst v) w'):if Region.wanted o (yielded ops a.tmps)=true then Oper.wp P o a w K Q else E:=by
 have hw:Region.wanted o (yielded ops a.tmps)=true:=by simp[Region.wanted,jF]
 rw[ai hw];unfold Oper.wp
 have hrun:(execOp a.eval o).run P w=.ok (.enter f vs) w:=by
  simp only[execOp,ho,resolve,hv,Sem.run_bind];show((Deferred.ofValue (.func (.func f) #[] #[]) vs).run P w).andThen _=_;simp[Deferred.ofValue,invoke,hcf,go_sem]
 rw[hrun,Oper.upon_enter];refine hR.mono λe w' hr=>?_;obtain⟨v,rfl,hk⟩:=h e w' hr;exact hk
theorem qBG{P:Program}{ops:Array Oper}{o:Oper}{a:Act}{w:World}{K:Act->World->Prop}{Q:Exit->Act->World->Prop}{E:Prop}(jF:o.guard=none)(f:FuncId)(x:Operand)(YD:Array TypeId)
 (ho:o.op=.call {callee:=.value (.func f),args:= #[x],argTypes:=YD}) (hcf:∀vs w,(callFunc f vs).run P w=.ok (.enter f vs) w) (v:Value) (hv:a.eval x=v) {R:Ending->World->Prop} (hR:Calls P f #[v] w R)
 (h:∀e w',R e w'->∃v,e=.returned v/\K (a.put o.dst v) w'):if Region.wanted o (yielded ops a.tmps)=true then Oper.wp P o a w K Q else E:=
 qBF jF f #[x] YD ho hcf #[v] (by simp[hv]) hR h
theorem qto(vs:Array Value)(w:World):(callFunc 101 vs).run Tryz.prog w=.ok (.enter 101 vs) w:=by kernel_rfl
theorem Tryz.qdV:(Tryz.prog.info? 129).map (λi=>(i.zero,i.size,i.bytes))=some (some (.agg #[.bool false,.slice none 0 0,.int .i64 0,.int .i64 0,.int .i64 0,.int .i64 0]),6,64):=by kernel_rfl
theorem qqC(c0 c1:Nat->Value)(m:Nat->Mo)(n:Nat)(k:Mo)(u v:Value)(j:Nat)(hj:j<(n+1)*6):
 app (mX c0 c1 m) (n*6) (arr #[u,v,.int .i64 k.a,.int .i64 k.b,.int .i64 k.c,.int .i64 k.d]) j=mX (uf c0 n u) (uf c1 n v) (lS m n k) j:=by
 unfold app
 by_cases h:j<n*6
 ·rw[ai h];unfold mX uf lS;rw[ah (show¬j/6=n by omega),ah (show¬j/6=n by omega),ah (show¬j/6=n by omega)]
 ·rw[ah h];obtain⟨i,rfl⟩:∃i,j=n*6+i:=⟨j-n*6,by omega⟩
  have hi:i<6:=by omega
  rw[show n*6+i-n*6=i from by omega]
  match i,hi with
  |0,_=>rw[Nat.add_zero,OW];simp[uf,arr]
  |1,_=>rw[OX];simp[uf,arr]
  |2,_=>rw[TA];simp[lS,arr]
  |3,_=>rw[TC];simp[lS,arr]
  |4,_=>rw[TD];simp[lS,arr]
  |5,_=>rw[TF];simp[lS,arr]
theorem qvF{M:Nat->Prop}{base:Nat}{wc W w5:World}{g n r gg cap:Nat}{tv:Value}{z:Nat->Int}{m:Nat->Mo}{c0 c1:Nat->Value}{c:Int}{u v:Value}{k:Mo}
 (AV:aG w5 g 190 2 (arr #[.map (some r),tv])) (xQ:base<=g) (Hw:base<=r) (D8:r≠g) (BA:tv.ownBlock≠some g) (BB:tv.ownBlock≠some r)
 (tH:pO wc r (n+1) (lS m n k)) (fA:g<wc.heap.size) (hC:∀i,i<n->ek (GM M g r tv) wc (c0 i) (c1 i) (z i)) (hc:ek (GM M g r tv) W u v c) (he:Ext wc W)
 (l9:Own w5 base 129 6 (.slice (some ⟨gg,0,none⟩) (n+1) cap) (n+1) (app (mX c0 c1 m) (n*6) (arr #[u,v,.int .i64 k.a,.int .i64 k.b,.int .i64 k.c,.int .i64 k.d])))
 (fG:W.grownBy w5 tv.ownBlock) (hat:tv.ownBlock=some gg\/W.heap.size<=gg) (gH:n+1<=1099511627776):
 rE M base (w5.setCell ⟨g,1,none⟩ (.slice (some ⟨gg,0,none⟩) (n+1) cap)) g (n+1) (λj=>if j=n then c else z j) (lS m n k):=by
 have RX:r<wc.heap.size:=tH.lt;have Sd:=he.size
 have wT:gg≠g:=λe=>by
  rcases hat with h|h
  ·exact BA (by rw[h,e])
  ·omega
 have gQ:gg≠r:=λe=>by
  rcases hat with h|h
  ·exact BB (by rw[h,e])
  ·omega
 have key:∀{x y:Value}{q:Int},ek (GM M g r tv) W x y q->ek (GM M g r (.slice (some ⟨gg,0,none⟩) (n+1) cap)) (w5.setCell ⟨g,1,none⟩ (.slice (some ⟨gg,0,none⟩) (n+1) cap)) x y q:=by
  intro x y q hq
  have h1:=hq.more (M':=λb=>GM M g r tv b\/b=gg) (by
   rintro b (hb|rfl)
   ·exact .inl hb
   ·rcases hat with h|h
    ·exact .inl (.inr (.inr (.inr h)))
    ·exact .inr h)
  have h2:=h1.kp (w':=w5) (Kp.grown fG (λb hb=>.inl (.inr (.inr (.inr hb)))));have h3:=h2.kp (Kp.set _ w5 (p:=⟨g,1,none⟩) (.inl (.inr (.inl rfl))) (.slice (some ⟨gg,0,none⟩) (n+1) cap));refine h3.more (λb hb=>.inl ?_);rcases hb with hb|hb|hb|hb
  ·exact .inl (.inl hb)
  ·exact .inl (.inr (.inl hb))
  ·exact .inl (.inr (.inr (.inl hb)))
  ·simp only[Value.ownBlock,Option.some.injEq]at hb;exact .inr hb.symm
 refine⟨r,.slice (some ⟨gg,0,none⟩) (n+1) cap,uf c0 n u,uf c1 n v,(AV.set 1 _).congr (λi hi=>?_),xQ,Hw,D8,by simpa[Value.ownBlock]using wT,by simpa[Value.ownBlock]using gQ,?_,(l9.of_heap (λb hb=>?_)).congr (λj hj=>qqC c0 c1 m n k u v j hj),λi hi=>?_,gH⟩
 ·have:i=0\/i=1:=by omega
  rcases this with rfl|rfl<;>simp[jr,arr]
 ·refine((tH.of_heap (he.heap RX)).of_heap (fG.block r (by omega) (Ne.symm BB))).of_heap ?_;exact Below.heap_setCell _ _ _ _ D8
 ·simp only[Value.ownBlock,Option.some.injEq]at hb;subst hb;exact Below.heap_setCell _ _ _ _ wT
 ·by_cases qI:i=n
  ·subst qI;simp only[uf,if_true];exact key hc
  ·simp only[uf,ah qI];exact key ((hC i (by omega)).ext he)
theorem Fr.new{g r gg k cap:Nat}{t t':TypeId}{tv:Value}{w w1 wc W w5:World}(he:Ext w w1)(kQ:w1.grownBy wc (some r))(H7:Ext wc W)(fG:W.grownBy w5 tv.ownBlock)(hB:aG w g t 2 (arr #[.map (some r),tv]))(AV:aG w5 g t' 2 (arr #[.map (some r),tv]))
 (hat:tv.ownBlock=some gg\/W.heap.size<=gg):Fr g w (w5.setCell ⟨g,1,none⟩ (.slice (some ⟨gg,0,none⟩) k cap)):=by
 have hs:=he.size;have sj:=kQ.size;have hsW:=H7.size;have KT:=fG.size
 have hB7:aG (w5.setCell ⟨g,1,none⟩ (.slice (some ⟨gg,0,none⟩) k cap)) g t' 2 (arr #[.map (some r),.slice (some ⟨gg,0,none⟩) k cap]):=(AV.set 1 _).congr (λi hi=>by
  have:i=0\/i=1:=by omega
  rcases this with rfl|rfl<;>simp[jr,arr])
 refine⟨by simp[World.setCell];omega,λb hb hn=>?_,λb hb=>?_,by rw[hB7.cell (i:=0) (by omega),hB.cell (i:=0) (by omega)];rfl⟩
 ·have Br:=λh=>hn ((hB.yT b).2 h);rw[Below.heap_setCell _ _ _ _ (λe=>Br (.inl e)),fG.block b (by omega) (λe=>Br (.inr (.inr e.symm))),H7.heap (by omega),kQ.block b (by omega) (λe=>Br (.inr (.inl (by cases e;rfl)))),he.heap hb]
 ·rcases(hB7.yT b).1 hb with h|h|h
  ·exact .inl ((hB.yT b).2 (.inl h))
  ·exact .inl ((hB.yT b).2 (.inr (.inl h)))
  ·simp only[Value.ownBlock,Option.some.injEq]at h;subst h;rcases hat with h|h
   ·exact .inl ((hB.yT _).2 (.inr (.inr h)))
   ·right;omega
theorem qvw(M:Nat->Prop)(base g n:Nat)(z:Nat->Int)(m:Nat->Mo)(k:Mo)(d0 d1:Value)(c:Int)(w:World)(hM:Mb M w)(hI:dQ M w d0 d1 c)(hG:rE M base w g n z m)(Dy:dQ (λb=>M b\/ug w g b) w d0 d1 c)
 (hn:k.nn=true) (hj:∀j,j<n->m j≠k) (qxq:n+1<=1099511627776):
 Calls Tryz.prog 147 #[.pointer (some ⟨g,0,none⟩),lL k,.agg #[d0,d1]] w λe w'=>e=.returned (.tuple #[])/\rE M base w' g (n+1) (λj=>if j=n then c else z j) (lS m n k)/\Below base w w'/\Fr g w w':=by
 obtain⟨i0,hi,hz0,hz1,hz2⟩:=info_parts Tryz.qdV;obtain⟨b1,a1,n1,p1,rfl,rfl⟩:=hI.form
 have j6:(!k.nn)=false:=by simp[hn]
 have bf:=λW=>qeT k W;rw[j6]at bf;have aW:=ae bf;clear bf j6 hn;have hE:Hid (Ext w ((w.alloc (.cells #[.int .i64 k.a,.int .i64 k.b,.int .i64 k.c,.int .i64 k.d] 127)).alloc (.cells #[.bool b1,.slice a1 n1 p1] 30))):=((aA w).alloc _).alloc _;have HJ:=ae hj;clear hj
 have jE:base<=w.heap.size:=by have:=hG.lt;omega
 go_enter Tryz.func147,Tryz.ntmps147
 go_wp2_with (fail);refine(aW.out _).mono ?_;rintro e w1 ⟨rfl,az⟩;have Ba:=hG.ext (hE.out.trans az);have Wo:=Dy.ext (hE.out.trans az);obtain⟨gW,KJ⟩:=ER az
 have B4:w1.cell? ⟨w.heap.size,0,none⟩=some (.int .i64 k.a)/\w1.cell? ⟨w.heap.size,1,none⟩=some (.int .i64 k.b)/\w1.cell? ⟨w.heap.size,2,none⟩=some (.int .i64 k.c)/\w1.cell? ⟨w.heap.size,3,none⟩=some (.int .i64 k.d)/\w1.cell? ⟨w.heap.size+1,0,none⟩=some (.bool b1)/\w1.cell? ⟨w.heap.size+1,1,none⟩=some (.slice a1 n1 p1):=by
  refine⟨?_,?_,?_,?_,?_,?_⟩<;>(rw[gW _ _ (by simp;try omega)];simp[go_sem])
 obtain⟨x0,x1,x2,x3,y0,y1⟩:=B4;clear gW KJ
 have eU:w.heap.size+2<=w1.heap.size:=by have:=az.size;simp at this;omega
 have hrw:∀r0,r0<w.heap.size->r0≠w.heap.size/\r0≠w.heap.size+1:=λr0 h=>by omega
 have qxN:∀r0 n0 m0,pO w1 r0 n0 m0->True:=λ_ _ _ _=>trivial;clear qxN hrw;obtain⟨r,tv,c0,c1,bL,xQ,Hw,D8,BA,BB,qcc,hO0,hC0,gH⟩:=hG;have si:r<w.heap.size:=qcc.lt;have qG:g<w.heap.size:=bL.lt;have htv:∀b,tv.ownBlock=some b->b<w.heap.size:=λb hb=>(hO0.lt b hb).2;have He:=hE.out.trans az;have dY:=ae bL;have cZ:=ae He;have hB:=bL.ext He;have tH:=qcc.of_heap (He.heap si);have hO:=hO0.ext He;have HC:Hid (∀i,i<n->ek (GM M g r tv) w1 (c0 i) (c1 i) (z i)):=λi hi=>(hC0 i hi).ext He;clear Ba bL qcc hO0 hC0;obtain⟨ta,tc,rfl⟩:=hO.form
 have hlk:∀nq,(Instr.lookup 188 (.map (some r)) (.agg #[.int .i64 k.a,.int .i64 k.b,.int .i64 k.c,.int .i64 k.d]) true).run Tryz.prog (w1.drewN nq)=.ok (.tuple #[.int .i64 0,.bool false]) (w1.drewN nq):=λnq=>
  qyW (w:=w1.drewN nq) (by exact tH) k HJ.out
 have g0:=hB.cell (i:=0) (by omega);have g1:=hB.cell (i:=1) (by omega);simp only[arr]at g0 g1;go_wp2
 go_quiet (fail)
 go_wp2
 have hup:∀nq,(Instr.mapUpdate 188 (.map (some r)) (.agg #[.int .i64 k.a,.int .i64 k.b,.int .i64 k.c,.int .i64 k.d]) (.int .i64 n)).run Tryz.prog (w1.drewN nq)=.ok () (World.BS (w1.drewN nq) r (.map (l5 (lS m n k) (n+1)).toArray (n+1))):=λnq=>
  qCw (w:=w1.drewN nq) (by exact tH) k HJ.out
 clear hlk
 go_cut [] (λwx=>Hid (∃nq,wx=World.BS (w1.drewN nq) r (.map (l5 (lS m n k) (n+1)).toArray (n+1))))
 case first=>
  go_region_held3 (λw'=>w'.cell? ⟨g,0,none⟩=some (.map (some r))/\w'.cell? ⟨g,1,none⟩=some (.slice ta n tc)/\w'.cell? ⟨w.heap.size,0,none⟩=some (.int .i64 k.a)/\w'.cell? ⟨w.heap.size,1,none⟩=some (.int .i64 k.b)/\w'.cell? ⟨w.heap.size,2,none⟩=some (.int .i64 k.c)/\w'.cell? ⟨w.heap.size,3,none⟩=some (.int .i64 k.d))
   (first|(((go_split_ands;(repeat' apply And.intro))<;>(exact K8 (by omega) (by assumption)));done)|go_keep)
   (fail)
  all_goals(go_wp2_with fail;go_meet;exact⟨_,rfl⟩)
 case rest=>
  obtain⟨IZ,lC⟩:=hcut.out
  have kQ:w1.grownBy wc (some r):=by
   rw[lC];exact QM (((aA w1).drewN IZ).grownBy _) (qj7 _ _ _)
  have qv3:pO wc r (n+1) (lS m n k):=by rw[lC];exact qy6 tH.lt
  have jM:=hB.grown kQ (by simpa using D8.symm);have hO3:Own wc base 129 6 (.slice ta n tc) n (mX c0 c1 m):=hO.of_heap λb hb=>kQ.block b (hO.lt b hb).2 (λe=>BB (by rw[hb];exact e));have Ig:Kp (GM M g r (.slice ta n tc)) w1 wc:=Kp.grown kQ (λq hq=>by cases hq;exact .inr (.inr (.inl rfl)));have Zl:Hid (∀i,i<n->ek (GM M g r (.slice ta n tc)) wc (c0 i) (c1 i) (z i)):=λi hi=>(HC.out i hi).kp Ig
  have hI3:dQ (GM M g r (.slice ta n tc)) wc (.bool b1) (.slice a1 n1 p1) c:=(Wo.more (by
   intro b hb;rcases hb with hb|rfl|rfl|hb
   ·exact .inl (.inl hb)
   ·exact .inl (.inr ((dY.out.yT _).2 (.inl rfl)))
   ·exact .inl (.inr ((dY.out.yT _).2 (.inr (.inl rfl))))
   ·exact .inl (.inr ((dY.out.yT _).2 (.inr (.inr hb)))))).kp Ig
  have o9:Mb (GM M g r (.slice ta n tc)) wc:=by
   intro b hb;have sj:=kQ.size;rcases hb with hb|rfl|rfl|hb
   ·have:=hM b hb;omega
   ·omega
   ·omega
   ·have:=htv b hb;omega
  have qwp:Below base w wc:=((QH He jE).trans (QH ((aA w1).drewN IZ) (by omega))).trans (by rw[lC];exact⟨rfl,rfl,rfl,(qj7 _ _ _).size,λq hq=>qeO _ _ _ _ (by omega)⟩);have e0:=K8 (x:=(.map (l5 (lS m n k) (n+1)).toArray (n+1))) (r:=r) (w:=w1.drewN IZ) (b:=w.heap.size) (by omega) (by exact x0);have e1:=K8 (x:=(.map (l5 (lS m n k) (n+1)).toArray (n+1))) (r:=r) (w:=w1.drewN IZ) (b:=w.heap.size) (by omega) (by exact x1);have e2:=K8 (x:=(.map (l5 (lS m n k) (n+1)).toArray (n+1))) (r:=r) (w:=w1.drewN IZ) (b:=w.heap.size) (by omega) (by exact x2);have e3:=K8 (x:=(.map (l5 (lS m n k) (n+1)).toArray (n+1))) (r:=r) (w:=w1.drewN IZ) (b:=w.heap.size) (by omega) (by exact x3);have e4:=K8 (x:=(.map (l5 (lS m n k) (n+1)).toArray (n+1))) (r:=r) (w:=w1.drewN IZ) (b:=w.heap.size+1) (by omega) (by exact y0);have e5:=K8 (x:=(.map (l5 (lS m n k) (n+1)).toArray (n+1))) (r:=r) (w:=w1.drewN IZ) (b:=w.heap.size+1) (by omega) (by exact y1);rw[<-lC]at e0 e1 e2 e3 e4 e5;have e6:=jM.cell (i:=1) (by omega);simp only[arr]at e6
  have sj:w.heap.size+2<=wc.heap.size:=by have:=kQ.size;omega
  have Ip:∀(b5:Bool)(a5:Option Addr)(n5 p5:Nat)(j:Nat),j<6->(arr #[.bool b5,.slice a5 n5 p5,.int .i64 k.a,.int .i64 k.b,.int .i64 k.c,.int .i64 k.d] j).oneCell'=true:=by
   intro b5 a5 n5 p5 j hj
   match j,hj with
   |0,_=>rfl
   |1,_=>rfl
   |2,_=>rfl
   |3,_=>rfl
   |4,_=>rfl
   |5,_=>rfl
  have Am:=ae Ip;clear Ip;have Uv:=ae hI3;have Gq:=ae o9;have wB:=ae kQ;clear lC hcut hup g0 g1 x0 x1 x2 x3 y0 y1 hB tH hO HC Wo Ig kQ az hI3 o9;go_wp2
  go_region_law (first|(refine Yw _ (by rfl) (.tmp 51) (.tmp 56) _ (by rfl) base 129 i0 _ 6 64 Tryz.underlying71 hi hz0 hz1 hz2 rfl (by omega) (.slice ta n tc) n (mX c0 c1 m) (by rfl) oq w4.heap.size 129 1 (arr #[.bool b5,.slice a5 n5 p5,.int .i64 k.a,.int .i64 k.b,.int .i64 k.c,.int .i64 k.d]) (by rfl) jV (Am.out b5 a5 n5 p5) (by unfold maxLen;omega) (by omega) qlJ ?_;intro gg cap w5 l9 fG hat hlt;have AV:=((jM.ext bg).alloc (.cells #[.bool b5,.slice a5 n5 p5,.int .i64 k.a,.int .i64 k.b,.int .i64 k.c,.int .i64 k.d] 129)).grown fG (Ne.symm BA);have q7:=AV.cell (i:=1) (by omega);have q8:=AV.frozen 1)|(refine qBG (by rfl) 101 _ _ (by rfl) qto (.agg #[.bool b1,.slice a1 n1 p1]) (by rfl) (Ou (M:=GM M g r (.slice ta n tc)) _ _ c _ (Gq.out.ext (aA _).drew) (Uv.out.ext (aA _).drew)) ?_;rintro e w4 ⟨f0,f1,rfl,hc,bB⟩;refine⟨_,rfl,?_⟩;obtain⟨b5,a5,n5,p5,rfl,rfl⟩:=hc.form;have bg:=((aA wc).drew).trans bB;have q0:=kc bg e0;have q1:=kc bg e1;have q2:=kc bg e2;have q3:=kc bg e3;have q6:=kc bg e6;have jV:=aG.bq w4 #[.bool b5,.slice a5 n5 p5,.int .i64 k.a,.int .i64 k.b,.int .i64 k.c,.int .i64 k.d] 129 6 rfl;have oq:=(hO3.ext bg).ext ((aA w4).alloc (.cells #[.bool b5,.slice a5 n5 p5,.int .i64 k.a,.int .i64 k.b,.int .i64 k.c,.int .i64 k.d] 129));have KS:=bg.size;have lg4:g<w4.heap.size:=(by omega);have qlJ:base<=(w4.alloc (.cells #[.bool b5,.slice a5 n5 p5,.int .i64 k.a,.int .i64 k.b,.int .i64 k.c,.int .i64 k.d] 129)).heap.size:=(by simp;omega)))
  all_goals
   go_end0
   refine⟨rfl,qvF AV xQ Hw D8 BA BB qv3 (by omega) Zl.out (hc.ext ((aA w4).alloc _)) (bg.trans ((aA w4).alloc _)) l9 fG hat qxq,?_⟩;have xP:=qwp.trans (QH (bg.trans ((aA w4).alloc (.cells #[.bool b5,.slice a5 n5 p5,.int .i64 k.a,.int .i64 k.b,.int .i64 k.c,.int .i64 k.d] 129))) (by omega));exact⟨(xP.grown fG qlJ (λq hq=>(hO3.lt q hq).1)).setCell xQ _,Fr.new cZ.out wB.out (bg.trans ((aA w4).alloc _)) fG dY.out AV hat⟩
end Go.Proofs.YtmcfpnmoklnhoaaGreat
