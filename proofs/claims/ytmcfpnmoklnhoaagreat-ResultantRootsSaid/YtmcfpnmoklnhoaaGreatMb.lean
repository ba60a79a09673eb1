/- Rows of one's own, by functions; append. Plain facts on sparse polynomials: lists of terms, their coefficients, the canonical form. sparse: monomials: cmp.Compare, CompareMono, negative; maps keyed by monomials; newGather. sparse: the map of a gather. sparse: gather.add. sparse: gather.add, a new monomial. -/
import Derived.Test.YtmcfpnmoklnhoaaGreatMo
import Derived.Deep.AppendLies
import Derived.ChangeKeysEq
import Derived.Sort.Grow
import Derived.Deep.RegionWith
import Derived.Deep.DrawnRows
set_option linter.unusedVariables false
set_option maxRecDepth 100000
set_option maxHeartbeats 400000000
set_option linter.unusedSimpArgs false

namespace Go.Proofs.YtmcfpnmoklnhoaaGreat
open Go.RowKit

def Own (w:World) (base:Nat) (E:TypeId) (k:Nat) (v:Value) (n:Nat) (f:Nat->Value):Prop:=
 (v = .slice none 0 0/\n=0) ∨ ∃ (g cap:Nat) (F:Nat->Value),v = .slice (some ⟨g,0,none⟩) n cap/\base<=g/\Blk w g E (cap*k) F/\n<=cap/\cap<=maxLen /\ ∀ j,j<n*k->F j=f j
def qis (f:Nat->Value) (N:Nat):List Value:=(List.range N).map f
theorem qci (f:Nat->Value) (N j:Nat) (h:j<N):(qis f N)[j]? = some (f j):=by
 unfold qis;rw [List.getElem?_map,List.getElem?_range h];rfl
theorem qbC (f:Nat->Value) (N:Nat):(qis f N).length=N:=by simp [qis]
def app (f:Nat->Value) (N:Nat) (s:Nat->Value):Nat->Value:=fun j=>if j<N then f j else s (j - N)
theorem qjj (f s:Nat->Value) (N k:Nat):qis f N ++ qis s k=qis (app f N s) (N+k):=by
 apply List.ext_getElem?;intro i
 by_cases h1:i<N
 ·rw [List.getElem?_append_left (by simpa [qbC] using h1),qci _ _ _ h1,qci _ _ _ (by omega)];unfold app;rw [if_pos h1]
 ·rw [List.getElem?_append_right (by simpa [qbC] using h1),qbC]
  by_cases h2:i<N+k
  ·rw [qci _ _ _ (by omega),qci _ _ _ h2];unfold app;rw [if_neg h1]
  ·rw [List.getElem?_eq_none (by simp [qbC];omega),List.getElem?_eq_none (by simp [qbC];omega)]
theorem Own.toRow {w:World} {base:Nat} {E:TypeId} {k:Nat} {v:Value} {n:Nat} {f:Nat->Value} (h:Own w base E k v n f):w.ownsRow base E k v n (qis f (n*k)):=by
 refine ⟨qbC _ _,?_⟩;rcases h with ⟨rfl,rfl⟩ | ⟨g,cap,F,rfl,hb,⟨cur,hg,hs,hc⟩,hn,hm,hf⟩
 ·exact .inl ⟨rfl,rfl⟩
 ·refine .inr ⟨g,cap,cur,rfl,hb,hg,hn,hm,hs,?_⟩;apply List.ext_getElem?;intro i;have hnk:n*k<=cap*k:=Nat.mul_le_mul_right _ hn
  by_cases h1:i<n*k
  ·rw [List.getElem?_take,if_pos h1,qci _ _ _ h1];have:=hc i (by omega);rw [<- Array.getElem?_toList] at this;rw [this,hf i h1]
  ·rw [List.getElem?_eq_none (by simp;omega),List.getElem?_eq_none (by simp [qbC];omega)]
theorem Own.ofRow {w:World} {base:Nat} {E:TypeId} {k g cap:Nat} {n:Nat} {f:Nat->Value} (h:w.ownsRow base E k (.slice (some ⟨g,0,none⟩) n cap) n (qis f (n*k))):Own w base E k (.slice (some ⟨g,0,none⟩) n cap) n f:=by
 rcases h.2 with ⟨h',_⟩ | ⟨g',cap',cur,h',hb,hg,hn,hm,hs,htake⟩
 ·simp at h'
 ·simp only [Value.slice.injEq,Option.some.injEq,Addr.mk.injEq,and_true,true_and] at h';obtain ⟨rfl,rfl⟩:=h';have hnk:n*k<=cap*k:=Nat.mul_le_mul_right _ hn;refine .inr ⟨g,cap,fun j=>cur.getD j undef,rfl,hb,⟨cur,hg,hs,fun i hi=>?_⟩,hn,hm,fun j hj=>?_⟩
  ·show cur[i]? = some (cur.getD i undef);rw [Array.getD_eq_getD_getElem?];simp [hs,hi]
  ·have h1:(cur.toList.take (n*k))[j]? = some (f j):=by rw [htake,qci _ _ _ hj]
   rw [List.getElem?_take,if_pos hj,Array.getElem?_toList] at h1;show cur.getD j undef=f j;rw [Array.getD_eq_getD_getElem?,h1];rfl
theorem Own.of_heap {w w':World} {base:Nat} {E:TypeId} {k:Nat} {v:Value} {n:Nat} {f:Nat->Value} (h:Own w base E k v n f) (he : ∀ g,v.ownBlock=some g->w'.heap[g]? = w.heap[g]?):Own w' base E k v n f:=by
 rcases h with h | ⟨g,cap,F,rfl,hb,hB,r⟩
 ·exact .inl h
 ·exact .inr ⟨g,cap,F,rfl,hb,hB.of_heap (he g rfl),r⟩
theorem Own.lt {w:World} {base:Nat} {E:TypeId} {k:Nat} {v:Value} {n:Nat} {f:Nat->Value} (h:Own w base E k v n f) : ∀ g,v.ownBlock=some g->base<=g/\g<w.heap.size:=by
 rcases h with ⟨rfl,_⟩ | ⟨g,cap,F,rfl,hb,hB,_⟩
 ·intro g hg;simp [Value.ownBlock] at hg
 ·intro g' hg;simp [Value.ownBlock] at hg;subst hg;exact ⟨hb,hB.lt⟩
theorem Own.ext {w w':World} {base:Nat} {E:TypeId} {k:Nat} {v:Value} {n:Nat} {f:Nat->Value} (h:Own w base E k v n f) (he:Ext w w'):Own w' base E k v n f:=h.of_heap fun g hg=>he.heap (h.lt g hg).2
theorem Own.congr {w:World} {base:Nat} {E:TypeId} {k:Nat} {v:Value} {n:Nat} {f f':Nat->Value} (h:Own w base E k v n f) (hf : ∀ j,j<n*k->f j=f' j):Own w base E k v n f':=by
 rcases h with h | ⟨g,cap,F,rfl,hb,hB,h1,h2,h3⟩
 ·exact .inl h
 ·exact .inr ⟨g,cap,F,rfl,hb,hB,h1,h2,fun j hj=>(h3 j hj).trans (hf j hj)⟩
theorem Own.nil (w:World) (base:Nat) (E:TypeId) (k:Nat) (f:Nat->Value):Own w base E k (.slice none 0 0) 0 f:=.inl ⟨rfl,rfl⟩
theorem Own.form {w:World} {base:Nat} {E:TypeId} {k:Nat} {v:Value} {n:Nat} {f:Nat->Value} (h:Own w base E k v n f) : ∃ a cap,v = .slice a n cap:=by
 rcases h with ⟨rfl,rfl⟩ | ⟨g,cap,F,rfl,_⟩
 ·exact ⟨_,_,rfl⟩
 ·exact ⟨_,_,rfl⟩
theorem Own.some {w:World} {base:Nat} {E:TypeId} {k:Nat} {v:Value} {n:Nat} {f:Nat->Value} (h:Own w base E k v n f) (h0:0<n) : ∃ (g cap:Nat) (F:Nat->Value),v = .slice (some ⟨g,0,none⟩) n cap/\base<=g/\Blk w g E (cap*k) F/\n<=cap/\cap<=maxLen /\ ∀ j,j<n*k->F j=f j:=by
 rcases h with ⟨_,rfl⟩ | h
 ·omega
 ·exact h
theorem qa3 {P : Program} (w : World) {ops : Array Oper} {rest : List Oper} {o : Oper} {a : Act} {Q : Exit -> Act -> World -> Prop} (hgd : o.guard = none) (s x : Operand) (t : TypeId)
  (ho:o.op = .call { callee:=.builtin .append,args:=#[s,x],argTypes:=#[t,t] })
  (base:Nat) (e:TypeId) (i:TypeInfo) (z:Value) (k bytes:Nat) (ht:P.underlying t=some (.slice e)) (hi:P.info? e=some i) (hz:i.zero=some z)
  (hsize:i.size=k) (hby:i.bytes=bytes) (hzs:z.cells.size=k) (hsz:0<k)
  (v:Value) (n:Nat) (f:Nat->Value) (hs:a.eval s=v) (hown:Own w base e k v n f)
  (q:Nat) (tq:TypeId) (c:Nat) (src:Nat->Value) (hx:a.eval x = .slice (some ⟨q,0,none⟩) 1 c) (hB:Blk w q tq k src) (h1 : ∀ j,j<k->(src j).oneCell'=true)
  (h63:n+1<=maxLen) (hbytes:(n+1)*bytes<=140737488355328) (hbase:base<=w.heap.size)
  (h : ∀ g cap w',Own w' base e k (.slice (some ⟨g,0,none⟩) (n+1) cap) (n+1) (app f (n*k) src)->w.grownBy w' v.ownBlock->(v.ownBlock=some g∨w.heap.size<=g)->g<w'.heap.size->wpList P ops Q rest (a.put o.dst (.slice (some ⟨g,0,none⟩) (n+1) cap)) w') :
  wpList P ops Q (o :: rest) a w:=by
 refine wpList_append_lies w hgd s x t ho base e i z k bytes ht hi hz hsize hby hzs hsz v n (qis f (n*k)) hs hown.toRow ⟨q,0,none⟩ 1 c (qis src k) hx (by rw [qbC];omega) ?_ ?_ (by omega) h63 hbytes hbase w.heap.size rfl ?_
 ·intro j u hu
  have hj:j<k:=by
   have:=(List.getElem?_eq_some_iff.1 hu).1;simpa [qbC] using this
  rw [qci _ _ _ hj] at hu;cases hu;rw [qb4,Nat.zero_add];exact hB.cell hj
 ·intro u hu;simp only [qis,List.mem_map,List.mem_range] at hu;obtain ⟨j,hj,rfl⟩:=hu;exact h1 j hj
 ·intro g cap w' ho hg hat hlt;rw [qjj,show n*k+k=(n+1)*k from by rw [Nat.add_mul,Nat.one_mul]] at ho;exact h g cap w' (Own.ofRow ho) hg (hat.imp id (fun e=>by omega)) hlt
theorem qbP {P : Program} (w : World) {ops : Array Oper} {o : Oper} {a : Act} {K : Act -> World -> Prop} {Q : Exit -> Act -> World -> Prop} {E : Prop} (hgd : o.guard = none) (s x : Operand) (t : TypeId)
  (ho:o.op = .call { callee:=.builtin .append,args:=#[s,x],argTypes:=#[t,t] })
  (base:Nat) (e:TypeId) (i:TypeInfo) (z:Value) (k bytes:Nat) (ht:P.underlying t=some (.slice e)) (hi:P.info? e=some i) (hz:i.zero=some z)
  (hsize:i.size=k) (hby:i.bytes=bytes) (hzs:z.cells.size=k) (hsz:0<k)
  (v:Value) (n:Nat) (f:Nat->Value) (hs:a.eval s=v) (hown:Own w base e k v n f)
  (q:Nat) (tq:TypeId) (c:Nat) (src:Nat->Value) (hx:a.eval x = .slice (some ⟨q,0,none⟩) 1 c) (hB:Blk w q tq k src) (h1 : ∀ j,j<k->(src j).oneCell'=true)
  (h63:n+1<=maxLen) (hbytes:(n+1)*bytes<=140737488355328) (hbase:base<=w.heap.size)
  (h : ∀ g cap w',Own w' base e k (.slice (some ⟨g,0,none⟩) (n+1) cap) (n+1) (app f (n*k) src)->w.grownBy w' v.ownBlock->(v.ownBlock=some g∨w.heap.size<=g)->g<w'.heap.size->K (a.put o.dst (.slice (some ⟨g,0,none⟩) (n+1) cap)) w') :
  if Region.wanted o (yielded ops a.tmps)=true then Oper.wp P o a w K Q else E:=by
 refine step_append_lies w hgd s x t ho base e i z k bytes ht hi hz hsize hby hzs hsz v n (qis f (n*k)) hs hown.toRow ⟨q,0,none⟩ 1 c (qis src k) hx (by rw [qbC];omega) ?_ ?_ (by omega) h63 hbytes hbase w.heap.size rfl ?_
 ·intro j u hu
  have hj:j<k:=by
   have:=(List.getElem?_eq_some_iff.1 hu).1;simpa [qbC] using this
  rw [qci _ _ _ hj] at hu;cases hu;rw [qb4,Nat.zero_add];exact hB.cell hj
 ·intro u hu;simp only [qis,List.mem_map,List.mem_range] at hu;obtain ⟨j,hj,rfl⟩:=hu;exact h1 j hj
 ·intro g cap w' ho hg hat hlt;rw [qjj,show n*k+k=(n+1)*k from by rw [Nat.add_mul,Nat.one_mul]] at ho;exact h g cap w' (Own.ofRow ho) hg (hat.imp id (fun e=>by omega)) hlt
theorem Blk.made {w:World} {base g n:Nat} {e:TypeId} {k:Nat} {zs:Array Value} (h:w.ownsRow base e k (.slice (some ⟨g,0,none⟩) n n) n (madeCells zs (n*k)).toList) (hz:zs.size=k) (hk:0<k):Blk w g e (n*k) (fun j=>arr zs (j % k)):=by
 refine Blk.of_own h _ fun i hi=>?_;have hm:i % k<k:=Nat.mod_lt _ hk;subst hz;simp [madeCells,hi,arr,Array.getD_eq_getD_getElem?,hm]
end Go.Proofs.YtmcfpnmoklnhoaaGreat

namespace Go.Proofs.YtmcfpnmoklnhoaaGreat

structure Mo where
 a:Int
 b:Int
 c:Int
 d:Int
deriving DecidableEq
abbrev Tm:=Int × Mo
def Mo.lt (x y:Mo):Prop:=x.d<y.d∨(x.d=y.d/\(x.c<y.c∨(x.c=y.c/\(x.b<y.b∨(x.b=y.b/\x.a<y.a)))))
instance (x y:Mo):Decidable (Mo.lt x y):=by unfold Mo.lt;infer_instance
theorem Mo.ext' {x y:Mo} (h1:x.a=y.a) (h2:x.b=y.b) (h3:x.c=y.c) (h4:x.d=y.d):x=y:=by
 cases x;cases y;simp_all
theorem Mo.lt_irrefl (x:Mo) : ¬ Mo.lt x x:=by unfold Mo.lt;omega
theorem Mo.lt_trans {x y z:Mo} (h1:Mo.lt x y) (h2:Mo.lt y z):Mo.lt x z:=by unfold Mo.lt at *;omega
theorem Mo.lt_tri (x y:Mo):Mo.lt x y∨x=y∨Mo.lt y x:=by
 by_cases h:x=y
 ·exact .inr (.inl h)
 ·have h2 : ¬ (x.a=y.a/\x.b=y.b/\x.c=y.c/\x.d=y.d):=fun ⟨a,b,c,d⟩=>h (Mo.ext' a b c d);unfold Mo.lt;omega
theorem Mo.lt_ne {x y:Mo} (h:Mo.lt x y):x≠y:=fun e=>Mo.lt_irrefl y (e ▸ h)
theorem Mo.lt_asymm {x y:Mo} (h:Mo.lt x y) : ¬ Mo.lt y x:=fun k=>Mo.lt_irrefl x (Mo.lt_trans h k)
def qcO (x y:Mo):Int:=if Mo.lt x y then -1 else if Mo.lt y x then 1 else 0
theorem qkW (x y:Mo):qcO x y=0↔x=y:=by
 unfold qcO;rcases Mo.lt_tri x y with h | h | h
 ·rw [if_pos h];exact ⟨fun e=>by omega,fun e=>absurd e (Mo.lt_ne h)⟩
 ·subst h;rw [if_neg (Mo.lt_irrefl x),if_neg (Mo.lt_irrefl x)];simp
 ·rw [if_neg (Mo.lt_asymm h),if_pos h];exact ⟨fun e=>by omega,fun e=>absurd e.symm (Mo.lt_ne h)⟩
theorem qdZ (x y:Mo):qcO x y<0↔Mo.lt x y:=by
 unfold qcO
 by_cases h:Mo.lt x y
 ·rw [if_pos h];simp [h]
 ·rw [if_neg h];split <;> simp [h]
def Mo.nn (m:Mo):Bool:=decide (0<=m.a) && decide (0<=m.b) && decide (0<=m.c) && decide (0<=m.d)
theorem Mo.nn_iff (m:Mo):m.nn=true↔0<=m.a/\0<=m.b/\0<=m.c/\0<=m.d:=by
 unfold Mo.nn;simp [and_assoc]

def qab:List Tm->Mo->Int
 | [],_=>0
 | t :: l,m=>(if t.2=m then t.1 else 0)+qab l m
def qcU (l:List Tm) (m:Mo):Int:=if m.nn then qab l m else 0
def nrm:List Tm->Nat
 | []=>0
 | t :: l=>t.1.natAbs+nrm l
theorem qae (l r:List Tm) (m:Mo):qab (l ++ r) m=qab l m+qab r m:=by
 induction l with
 | nil=>simp [qab]
 | cons t l ih=>simp only [List.cons_append,qab,ih];omega
theorem qai (l r:List Tm):nrm (l ++ r)=nrm l+nrm r:=by
 induction l with
 | nil=>simp [nrm]
 | cons t l ih=>simp only [List.cons_append,nrm,ih];omega
theorem qaB {l:List Tm} {m:Mo} (h : ∀ t ∈ l,t.2≠m):qab l m=0:=by
 induction l with
 | nil=>rfl
 | cons t l ih=>
  simp only [qab];rw [if_neg (h t (List.mem_cons_self ..)),ih fun t ht=>h t (List.mem_cons_of_mem _ ht)];omega
theorem qdz {l r:List Tm} (h:l.Perm r) (m:Mo):qab l m=qab r m:=by
 induction h with
 | nil=>rfl
 | cons t _ ih=>simp only [qab,ih]
 | swap s t l=>simp only [qab];omega
 | trans _ _ ih1 ih2=>rw [ih1,ih2]
theorem qh9 (l:List Tm) (m:Mo):(qab l m).natAbs<=nrm l:=by
 induction l with
 | nil=>simp [qab,nrm]
 | cons t l ih=>simp only [qab,nrm];split <;> omega
theorem qqq {l:List Tm} {t:Tm} (h:t ∈ l):t.1.natAbs<=nrm l:=by
 induction l with
 | nil=>cases h
 | cons s l ih=>
  simp only [nrm];rcases List.mem_cons.1 h with rfl | h
  ·omega
  ·have:=ih h;omega

def qbk (l:List Tm):Prop:=l.Pairwise (fun s t=>Mo.lt t.2 s.2) /\ ∀ t ∈ l,t.1≠0/\t.2.nn=true
theorem qbk.nil:qbk []:=⟨List.Pairwise.nil,fun _ h=>by cases h⟩
theorem qbk.tail {t:Tm} {l:List Tm} (h:qbk (t :: l)):qbk l:=⟨(List.pairwise_cons.1 h.1).2,fun s hs=>h.2 s (List.mem_cons_of_mem _ hs)⟩
theorem qbk.head {t:Tm} {l:List Tm} (h:qbk (t :: l)) : ∀ s ∈ l,Mo.lt s.2 t.2:=(List.pairwise_cons.1 h.1).1
theorem qbk.coef_head {t:Tm} {l:List Tm} (h:qbk (t :: l)):qab (t :: l) t.2=t.1:=by
 simp only [qab,if_true];rw [qaB fun s hs=>Mo.lt_ne (h.head s hs)];omega
theorem qbk.coef_big {l:List Tm} {m:Mo} (hm : ∀ t ∈ l,Mo.lt t.2 m):qab l m=0:=qaB fun t ht=>Mo.lt_ne (hm t ht)
theorem qbk.ext {l r:List Tm} (hl:qbk l) (hr:qbk r) (h : ∀ m,qab l m=qab r m):l=r:=by
 induction l generalizing r with
 | nil=>
  cases r with
  | nil=>rfl
  | cons s r=>
   exfalso;have:=h s.2;rw [hr.coef_head] at this;exact (hr.2 s (List.mem_cons_self ..)).1 this.symm
 | cons t l ih=>
  cases r with
  | nil=>
   exfalso;have:=h t.2;rw [hl.coef_head] at this;exact (hl.2 t (List.mem_cons_self ..)).1 this
  | cons s r=>
   have hm:t.2=s.2:=by
    rcases Mo.lt_tri t.2 s.2 with h1 | h1 | h1
    ·exfalso;have h2:=h s.2;rw [hr.coef_head,qbk.coef_big (l:=t :: l)] at h2
     ·exact (hr.2 s (List.mem_cons_self ..)).1 h2.symm
     ·intro q hq;rcases List.mem_cons.1 hq with rfl | hq
      ·exact h1
      ·exact Mo.lt_trans (hl.head q hq) h1
    ·exact h1
    ·exfalso;have h2:=h t.2;rw [hl.coef_head,qbk.coef_big (l:=s :: r)] at h2
     ·exact (hl.2 t (List.mem_cons_self ..)).1 h2
     ·intro q hq;rcases List.mem_cons.1 hq with rfl | hq
      ·exact h1
      ·exact Mo.lt_trans (hr.head q hq) h1
   have hc:t.1=s.1:=by
    have h2:=h t.2;rw [hl.coef_head,hm,hr.coef_head] at h2;exact h2
   have ht:t=s:=Prod.ext hc hm;subst ht;rw [ih hl.tail hr.tail fun m=>by have:=h m;simp only [qab] at this;omega]

def ins (c:Int) (m:Mo):List Tm->List Tm
 | []=>if c=0 then [] else [(c,m)]
 | t :: r=>if t.2=m then (if t.1+c=0 then r else (t.1+c,m) :: r) else if Mo.lt t.2 m then (if c=0 then t :: r else (c,m) :: t :: r) else t :: ins c m r
theorem qmt {c:Int} {m:Mo} {l:List Tm} {t:Tm} (h:t ∈ ins c m l):t.2=m∨t ∈ l:=by
 induction l with
 | nil=>
  simp only [ins] at h;split at h
  ·cases h
  ·simp at h;subst h;exact .inl rfl
 | cons s r ih=>
  simp only [ins] at h
  split at h
  ·split at h
   ·exact .inr (List.mem_cons_of_mem _ h)
   ·rcases List.mem_cons.1 h with rfl | h
    ·exact .inl rfl
    ·exact .inr (List.mem_cons_of_mem _ h)
  ·split at h
   ·split at h
    ·exact .inr h
    ·rcases List.mem_cons.1 h with rfl | h
     ·exact .inl rfl
     ·exact .inr h
   ·rcases List.mem_cons.1 h with rfl | h
    ·exact .inr (List.mem_cons_self ..)
    ·exact (ih h).imp id (List.mem_cons_of_mem _)
theorem qmu {c:Int} {m:Mo} {l:List Tm} (hm:m.nn=true) (h:qbk l):qbk (ins c m l):=by
 induction l with
 | nil=>
  simp only [ins];split
  ·exact qbk.nil
  ·rename_i h0;exact ⟨List.pairwise_singleton _ _,fun t ht=>by simp at ht;subst ht;exact ⟨h0,hm⟩⟩
 | cons s r ih=>
  simp only [ins]
  split
  ·rename_i h1
   split
   ·exact h.tail
   ·rename_i h2;refine ⟨List.pairwise_cons.2 ⟨fun t ht=>by have:=h.head t ht;rw [h1] at this;exact this,h.tail.1⟩,fun t ht=>?_⟩;rcases List.mem_cons.1 ht with rfl | ht
    ·exact ⟨h2,hm⟩
    ·exact h.tail.2 t ht
  ·rename_i h1
   split
   ·rename_i h2
    split
    ·exact h
    ·rename_i h3;refine ⟨List.pairwise_cons.2 ⟨fun t ht=>?_,h.1⟩,fun t ht=>?_⟩
     ·rcases List.mem_cons.1 ht with rfl | ht
      ·exact h2
      ·exact Mo.lt_trans (h.head t ht) h2
     ·rcases List.mem_cons.1 ht with rfl | ht
      ·exact ⟨h3,hm⟩
      ·exact h.2 t ht
   ·rename_i h2
    have h3:Mo.lt m s.2:=by
     rcases Mo.lt_tri s.2 m with k | k | k
     ·exact absurd k h2
     ·exact absurd k h1
     ·exact k
    have hi:=ih h.tail;refine ⟨List.pairwise_cons.2 ⟨fun t ht=>?_,hi.1⟩,fun t ht=>?_⟩
    ·rcases qmt ht with k | k
     ·rw [k];exact h3
     ·exact h.head t k
    ·rcases List.mem_cons.1 ht with rfl | ht
     ·exact h.2 t (List.mem_cons_self ..)
     ·exact hi.2 t ht
theorem qou (c:Int) (m:Mo) (l:List Tm) (q:Mo):qab (ins c m l) q=(if m=q then c else 0)+qab l q:=by
 induction l with
 | nil=>
  simp only [ins];split
  ·rename_i h;subst h;simp [qab]
  ·simp [qab]
 | cons s r ih=>
  simp only [ins]
  split
  ·rename_i h1;subst h1
   split
   ·simp only [qab];split <;> omega
   ·simp only [qab];split <;> omega
  ·split
   ·split
    ·rename_i h;subst h;simp
    ·simp only [qab]
   ·simp only [qab,ih];omega
def norm:List Tm->List Tm
 | []=>[]
 | t :: l=>if t.2.nn then ins t.1 t.2 (norm l) else norm l
theorem qaH (l:List Tm):qbk (norm l):=by
 induction l with
 | nil=>exact qbk.nil
 | cons t l ih=>
  simp only [norm];split
  ·rename_i h;exact qmu h ih
  ·exact ih
theorem qcv (l:List Tm) (m:Mo):qab (norm l) m=qcU l m:=by
 induction l with
 | nil=>simp [norm,qab,qcU]
 | cons t l ih=>
  simp only [norm]
  split
  ·rename_i h;rw [qou,ih];unfold qcU
   by_cases h2:t.2=m
   ·subst h2;simp [h,qab]
   ·simp only [qab];rw [if_neg h2];split <;> omega
  ·rename_i h;rw [ih];unfold qcU
   by_cases h2:t.2=m
   ·subst h2;simp [h]
   ·simp only [qab];rw [if_neg h2];split <;> omega
theorem qiD {l r:List Tm} (hr:qbk r) (h : ∀ m,qab r m=qcU l m):r=norm l:=hr.ext (qaH l) fun m=>by rw [h,qcv]
theorem qkA {l r:List Tm} (h : ∀ m,m.nn=true->qab l m=qab r m):norm l=norm r:=
 qiD (qaH l) fun m=>by rw [qcv];unfold qcU;split <;> simp_all
theorem qeq (l:List Tm) (m:Mo) (hm:m.nn=true):qab (norm l) m=qab l m:=by rw [qcv];unfold qcU;rw [if_pos hm]
theorem qoh {l r:List Tm} (h:norm l=norm r) (m:Mo) (hm:m.nn=true):qab l m=qab r m:=by
 rw [<- qeq l m hm,<- qeq r m hm,h]
theorem qqK (c:Int) (m:Mo) (l:List Tm):nrm (ins c m l)<=c.natAbs+nrm l:=by
 induction l with
 | nil=>simp only [ins];split <;> simp [nrm]
 | cons s r ih=>
  simp only [ins]
  split
  ·split <;> simp only [nrm] <;> omega
  ·split
   ·split <;> simp only [nrm] <;> omega
   ·simp only [nrm];omega
theorem qog (l:List Tm):nrm (norm l)<=nrm l:=by
 induction l with
 | nil=>exact Nat.le_refl _
 | cons t l ih=>
  simp only [norm,nrm];split
  ·exact Nat.le_trans (qqK _ _ _) (by omega)
  ·omega
theorem qjv {l:List Tm} {t:Tm} (h:t ∈ norm l) : ∃ s ∈ l,s.2=t.2:=by
 induction l with
 | nil=>cases h
 | cons s l ih=>
  simp only [norm] at h
  split at h
  ·rcases qmt h with h | h
   ·exact ⟨s,List.mem_cons_self ..,h.symm⟩
   ·obtain ⟨q,hq,e⟩:=ih h;exact ⟨q,List.mem_cons_of_mem _ hq,e⟩
  ·obtain ⟨q,hq,e⟩:=ih h;exact ⟨q,List.mem_cons_of_mem _ hq,e⟩
theorem qfA {st r : List Tm} (hd : st.Pairwise (fun s t => s.2 ≠ t.2)) (hn : ∀ t ∈ st, t.2.nn = true) (hp : r.Perm (st.filter fun t => decide (t.1 ≠ 0))) (hs : r.Pairwise (fun s t => ¬ Mo.lt s.2 t.2)) :
  qbk r /\ ∀ m,qab r m=qab st m:=by
 have hd2:r.Pairwise (fun s t=>s.2≠t.2):=(hp.symm.pairwise_iff (fun h=>Ne.symm h)).1 (hd.filter _);refine ⟨⟨?_,fun t ht=>?_⟩,fun m=>?_⟩
 ·refine (hs.and hd2).imp ?_;rintro s t ⟨h1,h2⟩;rcases Mo.lt_tri s.2 t.2 with k | k | k
  ·exact absurd k h1
  ·exact absurd k h2
  ·exact k
 ·have:=(hp.mem_iff).1 ht;simp only [List.mem_filter,decide_eq_true_eq] at this;exact ⟨this.2,hn t this.1⟩
 ·rw [qdz hp];clear hp hs hd2 hd hn
  induction st with
  | nil=>rfl
  | cons t l ih=>
   simp only [List.filter_cons]
   split
   ·simp only [qab,ih]
   ·rename_i h0
    have:t.1=0:=by simpa using h0
    simp only [qab,ih,this];split <;> omega
end Go.Proofs.YtmcfpnmoklnhoaaGreat

namespace Go.Proofs.YtmcfpnmoklnhoaaGreat
open Go.RowKit

abbrev moV (m:Mo):Value:=.agg #[.int .i64 m.a,.int .i64 m.b,.int .i64 m.c,.int .i64 m.d]
theorem qby {P : Program} {f : FuncId} {args : Array Value} {w : World} {n : Nat} {v : Value}
  (h:Calls P f args (w.drewN n) fun e w'=>e = .returned v/\w.drewN n=w'):Calls P f args (w.drewN n) fun e w''=>e = .returned v /\ ∃ m,w''=w.drewN m:=
 h.mono fun _ _ ⟨he,hm⟩=>⟨he,n,hm.symm⟩
theorem qcA (x:Int) (w:World):Calls Tryz.prog 203 #[.int .i64 x] w fun e w'=>e = .returned (.bool false)/\w=w':=by
 have h:(x != x)=false:=by simp
 go_enter Tryz.func203,Tryz.ntmps203
 go_wp2;go_ret;exact ⟨rfl,rfl⟩
theorem qc6 (x y:Int) (w:World):Calls Tryz.prog 181 #[.int .i64 x,.int .i64 y] w fun e w'=>e = .returned (.int .i64 (qcX x y))/\w=w':=by
 rcases Int.lt_trichotomy x y with h | h | h
 ·have H:Hid (qcX x y = -1):=qee h
  go_enter Tryz.func181,Tryz.ntmps181
  go_wp2_with (fail);refine (qcA x _).mono ?_;rintro e w' ⟨rfl,rfl⟩;go_wp2_with (fail);refine (qcA y _).mono ?_;rintro e w' ⟨rfl,rfl⟩;go_wp2;go_ret;exact ⟨by rw [H.out];rfl,rfl⟩
 ·subst h
  have H:Hid (qcX x x=0):=by show _=_;unfold qcX;rw [if_neg (by omega),if_neg (by omega)]
  have l1 : ¬ x<x:=by omega
  go_enter Tryz.func181,Tryz.ntmps181
  go_wp2_with (fail);refine (qcA x _).mono ?_;rintro e w' ⟨rfl,rfl⟩;go_wp2_with (fail);refine (qcA x _).mono ?_;rintro e w' ⟨rfl,rfl⟩;go_wp2;go_ret;exact ⟨by rw [H.out];rfl,rfl⟩
 ·have H:Hid (qcX x y=1):=qef h
  have l1 : ¬ x<y:=by omega
  go_enter Tryz.func181,Tryz.ntmps181
  go_wp2_with (fail);refine (qcA x _).mono ?_;rintro e w' ⟨rfl,rfl⟩;go_wp2_with (fail);refine (qcA y _).mono ?_;rintro e w' ⟨rfl,rfl⟩;go_wp2;go_ret;exact ⟨by rw [H.out];rfl,rfl⟩
theorem qdq (m:Mo) (w:World):Calls Tryz.prog 167 #[moV m] w fun e w'=>e = .returned (.bool (!m.nn))/\Ext w w':=by
 obtain ⟨a,b,c,d⟩:=m;have hE:Hid (Ext w (w.alloc (.cells #[.int .i64 a,.int .i64 b,.int .i64 c,.int .i64 d] 127))):=(Ext.refl w).alloc _
 have i0 : ∀ w,(Instr.index 127 (.agg #[.int .i64 a,.int .i64 b,.int .i64 c,.int .i64 d]) (.int .i64 0)).run Tryz.prog w = .ok (.int .i64 a) w:=fun _=>by kernel_rfl
 have i1 : ∀ w,(Instr.index 127 (.agg #[.int .i64 a,.int .i64 b,.int .i64 c,.int .i64 d]) (.int .i64 1)).run Tryz.prog w = .ok (.int .i64 b) w:=fun _=>by kernel_rfl
 have i2 : ∀ w,(Instr.index 127 (.agg #[.int .i64 a,.int .i64 b,.int .i64 c,.int .i64 d]) (.int .i64 2)).run Tryz.prog w = .ok (.int .i64 c) w:=fun _=>by kernel_rfl
 have i3 : ∀ w,(Instr.index 127 (.agg #[.int .i64 a,.int .i64 b,.int .i64 c,.int .i64 d]) (.int .i64 3)).run Tryz.prog w = .ok (.int .i64 d) w:=fun _=>by kernel_rfl
 by_cases h0:a<0
 ·have H:Hid ((!Mo.nn ⟨a,b,c,d⟩)=true):=by show _=_;unfold Mo.nn;simp [show ¬ (0<=a) from by omega]
  go_enter Tryz.func167,Tryz.ntmps167
  go_wp2;refine wp_loop_rounds 1 ?_;rw [rounds_succ];go_wp2;go_ret;exact ⟨by rw [H.out];rfl,hE.out⟩
 by_cases h1:b<0
 ·have H:Hid ((!Mo.nn ⟨a,b,c,d⟩)=true):=by show _=_;unfold Mo.nn;simp [show ¬ (0<=b) from by omega]
  go_enter Tryz.func167,Tryz.ntmps167
  go_wp2;refine wp_loop_rounds 2 ?_;rw [rounds_succ];go_wp2;rw [rounds_succ];go_wp2;go_ret;exact ⟨by rw [H.out];rfl,hE.out⟩
 by_cases h2:c<0
 ·have H:Hid ((!Mo.nn ⟨a,b,c,d⟩)=true):=by show _=_;unfold Mo.nn;simp [show ¬ (0<=c) from by omega]
  go_enter Tryz.func167,Tryz.ntmps167
  go_wp2;refine wp_loop_rounds 3 ?_;rw [rounds_succ];go_wp2;rw [rounds_succ];go_wp2;rw [rounds_succ];go_wp2;go_ret;exact ⟨by rw [H.out];rfl,hE.out⟩
 by_cases h3:d<0
 ·have H:Hid ((!Mo.nn ⟨a,b,c,d⟩)=true):=by show _=_;unfold Mo.nn;simp [show ¬ (0<=d) from by omega]
  go_enter Tryz.func167,Tryz.ntmps167
  go_wp2;refine wp_loop_rounds 4 ?_;rw [rounds_succ];go_wp2;rw [rounds_succ];go_wp2;rw [rounds_succ];go_wp2;rw [rounds_succ];go_wp2;go_ret;exact ⟨by rw [H.out];rfl,hE.out⟩
 have H:Hid ((!Mo.nn ⟨a,b,c,d⟩)=false):=by show _=_;unfold Mo.nn;simp [show 0<=a from by omega,show 0<=b from by omega,show 0<=c from by omega,show 0<=d from by omega]
 go_enter Tryz.func167,Tryz.ntmps167
 go_wp2;refine wp_loop_rounds 5 ?_;rw [rounds_succ];go_wp2;rw [rounds_succ];go_wp2;rw [rounds_succ];go_wp2;rw [rounds_succ];go_wp2;rw [rounds_succ];go_wp2;go_ret;exact ⟨by rw [H.out];rfl,hE.out⟩

theorem qeV {x y:Mo} (h:Mo.lt x y):qcO x y = -1:=by unfold qcO;rw [if_pos h]
theorem qeW {x y:Mo} (h:Mo.lt y x):qcO x y=1:=by unfold qcO;rw [if_neg (Mo.lt_asymm h),if_pos h]
theorem qrf (x y:Mo) (h:x.d≠y.d):qcO x y=qcX x.d y.d:=by
 by_cases hlt:x.d<y.d
 ·rw [qeV (by unfold Mo.lt;omega),qee hlt]
 ·rw [qeW (by unfold Mo.lt;omega),qef (by omega)]
theorem qrg (x y:Mo) (h0:x.d=y.d) (h:x.c≠y.c):qcO x y=qcX x.c y.c:=by
 by_cases hlt:x.c<y.c
 ·rw [qeV (by unfold Mo.lt;omega),qee hlt]
 ·rw [qeW (by unfold Mo.lt;omega),qef (by omega)]
theorem qrh (x y:Mo) (h0:x.d=y.d) (h1:x.c=y.c) (h:x.b≠y.b):qcO x y=qcX x.b y.b:=by
 by_cases hlt:x.b<y.b
 ·rw [qeV (by unfold Mo.lt;omega),qee hlt]
 ·rw [qeW (by unfold Mo.lt;omega),qef (by omega)]
theorem qri (x y:Mo) (h0:x.d=y.d) (h1:x.c=y.c) (h2:x.b=y.b) (h:x.a≠y.a):qcO x y=qcX x.a y.a:=by
 by_cases hlt:x.a<y.a
 ·rw [qeV (by unfold Mo.lt;omega),qee hlt]
 ·rw [qeW (by unfold Mo.lt;omega),qef (by omega)]
theorem qg3 {x y:Int} (h:x≠y):(qcX x y != 0)=true:=by
 unfold qcX
 by_cases h1:x<y
 ·rw [if_pos h1];rfl
 ·rw [if_neg h1,if_pos (by omega)];rfl
theorem qdY (x:Int):qcX x x=0:=by unfold qcX;rw [if_neg (by omega),if_neg (by omega)]
def qs5 (x y:Mo) (k:Nat):Prop:=(k<4->x.d=y.d)/\(k<3->x.c=y.c)/\(k<2->x.b=y.b)/\(k<1->x.a=y.a)
def Gr (w w':World):Prop:=∃ q os,w'=Go.Sort.grow (w.drewN q) os
theorem Gr.refl (w:World):Gr w w:=⟨0,#[],by rw [Go.Sort.grow_empty];rfl⟩
theorem Gr.alloc {a w:World} (h:Gr a w) (o:Obj):Gr a (w.alloc o):=by
 obtain ⟨q,os,rfl⟩:=h;exact ⟨q,os ++ #[o],by rw [Go.Sort.alloc_eq_grow,Go.Sort.grow_grow]⟩
theorem Gr.drewN {a w:World} (h:Gr a w) (n:Nat):Gr a (w.drewN n):=by
 obtain ⟨q,os,rfl⟩:=h;exact ⟨q+n,os,by rw [<- World.drewN_drewN];rfl⟩
theorem Gr.trans {a b c:World} (h:Gr a b) (k:Gr b c):Gr a c:=by
 obtain ⟨q2,os2,rfl⟩:=k;obtain ⟨q,os,h2⟩:=h.drewN q2;exact ⟨q,os ++ os2,by rw [h2,Go.Sort.grow_grow]⟩
theorem Gr.ext {a b:World} (h:Gr a b):Ext a b:=by
 obtain ⟨q,os,rfl⟩:=h;exact ⟨rfl,rfl,rfl,by rw [Go.Sort.size_grow];exact Nat.le_add_right _ _,fun k hk=>Go.Sort.heap_grow_old (a.drewN q) os hk⟩
theorem qey (x y:Mo) (w:World):Calls Tryz.prog 157 #[moV x,moV y] w fun e w'=>e = .returned (.int .i64 (qcO x y))/\Gr w w':=by
 have hE:Gr w ((w.alloc (.cells #[.int .i64 x.a,.int .i64 x.b,.int .i64 x.c,.int .i64 x.d] 127)).alloc (.cells #[.int .i64 y.a,.int .i64 y.b,.int .i64 y.c,.int .i64 y.d] 127)):=((Gr.refl w).alloc _).alloc _
 go_enter Tryz.func157,Tryz.ntmps157
 go_wp2
 go_loopw [5] (fun i wr=>∃ k:Nat,k<=4/\i = .int .i64 ((k:Int) - 1)/\qs5 x y k/\Hid (Gr ((w.alloc (.cells #[.int .i64 x.a,.int .i64 x.b,.int .i64 x.c,.int .i64 x.d] 127)).alloc (.cells #[.int .i64 y.a,.int .i64 y.b,.int .i64 y.c,.int .i64 y.d] 127)) wr)) (fun i _=>((intOf i)+1).toNat)
 case atStart=>exact ⟨4,Nat.le_refl _,rfl,⟨by omega,by omega,by omega,by omega⟩,Gr.refl _⟩
 case round=>
  obtain ⟨k,hk,rfl,hq,he⟩:=hrel;obtain ⟨hcc,hff⟩:=qhc he.out.ext;have HE:=Lib.hid (hE.trans he.out);clear hE
  match k,hk,hq with
  | 0,_,hq=>
   have H:Hid (qcO x y=0):=(qkW x y).2 (Mo.ext' (hq.2.2.2 (by omega)) (hq.2.2.1 (by omega)) (hq.2.1 (by omega)) (hq.1 (by omega)));clear hq;go_wp2;go_ret;exact ⟨by rw [H.out];rfl,HE.out⟩
  | 1,_,hq=>
   have z0:((1:Nat):Int) - 1=0:=by decide
   rw [z0]
   by_cases h:x.a=y.a
   ·have H:Hid (qs5 x y 0):=⟨fun _=>hq.1 (by omega),fun _=>hq.2.1 (by omega),fun _=>hq.2.2.1 (by omega),fun _=>h⟩
    have hz:qcX x.a y.a=0:=by rw [h,qdY]
    have ctr : ∀ W,Calls Tryz.prog 181 #[.int .i64 x.a,.int .i64 y.a] W fun e w'=>e = .returned (.int .i64 0)/\W=w':=fun W=>by have:=qc6 x.a y.a W;rw [hz] at this;exact this
    have CTR:=Lib.hid ctr;clear hq h hz ctr z0;go_wp2
    go_quiet ((go_at_call 181;exact qby (CTR.out _)))
    go_wp2
    go_roundw
    case rel=>exact ⟨0,by omega,by go_num,H.out,by show Gr _ _;exact he.out.drewN _⟩
    case measure=>simp [intOf]
   ·have H:Hid (qcO x y=qcX x.a y.a):=qri x y (hq.1 (by omega)) (hq.2.1 (by omega)) (hq.2.2.1 (by omega)) h;have hz:=qg3 h;clear hq h z0;go_wp2
    go_quiet ((go_at_call 181;exact qby (qc6 _ _ _)))
    go_wp2;go_ret;exact ⟨by rw [H.out];rfl,HE.out.drewN _⟩
  | 2,_,hq=>
   have z0:((2:Nat):Int) - 1=1:=by decide
   rw [z0]
   by_cases h:x.b=y.b
   ·have H:Hid (qs5 x y 1):=⟨fun _=>hq.1 (by omega),fun _=>hq.2.1 (by omega),fun _=>h,by omega⟩
    have hz:qcX x.b y.b=0:=by rw [h,qdY]
    have ctr : ∀ W,Calls Tryz.prog 181 #[.int .i64 x.b,.int .i64 y.b] W fun e w'=>e = .returned (.int .i64 0)/\W=w':=fun W=>by have:=qc6 x.b y.b W;rw [hz] at this;exact this
    have CTR:=Lib.hid ctr;clear hq h hz ctr z0;go_wp2
    go_quiet ((go_at_call 181;exact qby (CTR.out _)))
    go_wp2
    go_roundw
    case rel=>exact ⟨1,by omega,by go_num,H.out,by show Gr _ _;exact he.out.drewN _⟩
    case measure=>simp [intOf]
   ·have H:Hid (qcO x y=qcX x.b y.b):=qrh x y (hq.1 (by omega)) (hq.2.1 (by omega)) h;have hz:=qg3 h;clear hq h z0;go_wp2
    go_quiet ((go_at_call 181;exact qby (qc6 _ _ _)))
    go_wp2;go_ret;exact ⟨by rw [H.out];rfl,HE.out.drewN _⟩
  | 3,_,hq=>
   have z0:((3:Nat):Int) - 1=2:=by decide
   rw [z0]
   by_cases h:x.c=y.c
   ·have H:Hid (qs5 x y 2):=⟨fun _=>hq.1 (by omega),fun _=>h,by omega,by omega⟩
    have hz:qcX x.c y.c=0:=by rw [h,qdY]
    have ctr : ∀ W,Calls Tryz.prog 181 #[.int .i64 x.c,.int .i64 y.c] W fun e w'=>e = .returned (.int .i64 0)/\W=w':=fun W=>by have:=qc6 x.c y.c W;rw [hz] at this;exact this
    have CTR:=Lib.hid ctr;clear hq h hz ctr z0;go_wp2
    go_quiet ((go_at_call 181;exact qby (CTR.out _)))
    go_wp2
    go_roundw
    case rel=>exact ⟨2,by omega,by go_num,H.out,by show Gr _ _;exact he.out.drewN _⟩
    case measure=>simp [intOf]
   ·have H:Hid (qcO x y=qcX x.c y.c):=qrg x y (hq.1 (by omega)) h;have hz:=qg3 h;clear hq h z0;go_wp2
    go_quiet ((go_at_call 181;exact qby (qc6 _ _ _)))
    go_wp2;go_ret;exact ⟨by rw [H.out];rfl,HE.out.drewN _⟩
  | 4,_,hq=>
   have z0:((4:Nat):Int) - 1=3:=by decide
   rw [z0]
   by_cases h:x.d=y.d
   ·have H:Hid (qs5 x y 3):=⟨fun _=>h,by omega,by omega,by omega⟩
    have hz:qcX x.d y.d=0:=by rw [h,qdY]
    have ctr : ∀ W,Calls Tryz.prog 181 #[.int .i64 x.d,.int .i64 y.d] W fun e w'=>e = .returned (.int .i64 0)/\W=w':=fun W=>by have:=qc6 x.d y.d W;rw [hz] at this;exact this
    have CTR:=Lib.hid ctr;clear hq h hz ctr z0;go_wp2
    go_quiet ((go_at_call 181;exact qby (CTR.out _)))
    go_wp2
    go_roundw
    case rel=>exact ⟨3,by omega,by go_num,H.out,by show Gr _ _;exact he.out.drewN _⟩
    case measure=>simp [intOf]
   ·have H:Hid (qcO x y=qcX x.d y.d):=qrf x y h;have hz:=qg3 h;clear hq h z0;go_wp2
    go_quiet ((go_at_call 181;exact qby (qc6 _ _ _)))
    go_wp2;go_ret;exact ⟨by rw [H.out];rfl,HE.out.drewN _⟩


theorem Tryz.info3:(Tryz.prog.info? 3).map (fun i=>(i.zero,i.size,i.bytes))=some (some (.int .i64 0),1,8):=by kernel_rfl
theorem qms:Tryz.prog.cellsOf 3=1:=by kernel_rfl
theorem qqJ (w:World):(isAgg 3).run Tryz.prog w = .ok false w:=by kernel_rfl
theorem qjK (cs:Array Value) (o:Nat) (x:Value) (w:World) (h:cs[o]? = some x):(part 3 cs o).run Tryz.prog w = .ok x w:=by
 simp only [part,Sem.run_bind,qqJ,Result.andThen_ok];simp [h,go_sem]
theorem qcn (xs ys : Array Value) (j : Nat) (is : List Nat) (a b : Int) (w : World) (hx : xs[j]? = some (.int .i64 a)) (hy : ys[j]? = some (.int .i64 b)) :
  (Op.eqItems 9999 3 1 xs ys (j :: is)).run Tryz.prog w=if a=b then (Op.eqItems 9999 3 1 xs ys is).run Tryz.prog w else .ok false w:=by
 have e0:=run_equalIn_int (P:=Tryz.prog) w 9998 3 .i64 .i64 a b Tryz.underlying3;simp only [Op.eqItems,Sem.run_bind,Nat.mul_one];rw [qjK _ _ _ w hx,Result.andThen_ok,qjK _ _ _ w hy,Result.andThen_ok,e0,Result.andThen_ok]
 by_cases h:a=b
 ·simp [h]
 ·simp [h,go_sem]
theorem qsI (x y:Mo) (w:World):(Op.equal 127 (moV x) (moV y)).run Tryz.prog w = .ok (decide (x=y)) w:=by
 obtain ⟨i0,hi,hz0,hz1,hz2⟩:=info_parts Tryz.info3
 cases x with | mk xa xb xc xd=>cases y with | mk ya yb yc yd=>
 show (Op.equalIn (9999+1) 127 (.agg #[.int .i64 xa,.int .i64 xb,.int .i64 xc,.int .i64 xd]) (.agg #[.int .i64 ya,.int .i64 yb,.int .i64 yc,.int .i64 yd])).run Tryz.prog w=_;rw [run_equalIn_array w 9999 _ _ Tryz.underlying127 hi,qms,show List.range 4 = [0,1,2,3] from rfl];rw [qcn _ _ 0 _ xa ya w rfl rfl,qcn _ _ 1 _ xb yb w rfl rfl,qcn _ _ 2 _ xc yc w rfl rfl,qcn _ _ 3 _ xd yd w rfl rfl]
 by_cases h1:xa=ya <;> by_cases h2:xb=yb <;> by_cases h3:xc=yc <;> by_cases h4:xd=yd <;> simp [h1,h2,h3,h4,Op.eqItems,go_sem]
theorem qrl (em:Bool) (x:Mo) (w:World):(Instr.checkKey em 10000 127 (moV x)).run Tryz.prog w = .ok () w:=by
 kernel_rfl

def ent (m:Nat->Mo) (i:Nat):MapEntry:={ key:=moV (m i),val:=.int .i64 i,born:=i }
def qec (m:Nat->Mo) (n:Nat):List MapEntry:=(List.range n).map (ent m)
def qcs (w:World) (r n:Nat) (m:Nat->Mo):Prop:=w.heap[r]? = some (.map (qec m n).toArray n)
theorem qhQ (m : Nat -> Mo) (k : Mo) (w : World) (l : Nat) : ∀ (s : Nat) (hs : ∀ j, s <= j -> j < s + l -> m j ≠ k) (tl : List MapEntry),
  (Instr.findAsking 127 (moV k) ((List.range' s l).map (ent m) ++ tl) s).run Tryz.prog w=(Instr.findAsking 127 (moV k) tl (s+l)).run Tryz.prog w:=by
 induction l with
 | zero=>intro s _ tl;simp
 | succ l ih=>
  intro s hs tl;rw [List.range'_succ,List.map_cons,List.cons_append];simp only [Instr.findAsking,Sem.run_bind];show ((Op.equal 127 (moV k) (moV (m s))).run Tryz.prog w).andThen _=_;rw [qsI,Result.andThen_ok,decide_eq_false (fun e=>hs s (Nat.le_refl _) (by omega) e.symm)];simp only [Bool.false_eq_true,if_false];rw [ih (s+1) (fun j h1 h2=>hs j (by omega) (by omega)) tl,show s+1+l=s+(l+1) from by omega]
theorem qhP (m:Nat->Mo) (k:Mo) (w:World) (n:Nat) (h : ∀ j,j<n->m j≠k):(Instr.findAsking 127 (moV k) (qec m n) 0).run Tryz.prog w = .ok none w:=by
 have:=qhQ m k w n 0 (fun j _ h2=>h j (by omega)) [];rw [List.append_nil,<- List.range_eq_range'] at this;rw [show qec m n=(List.range n).map (ent m) from rfl,this];simp [Instr.findAsking,go_sem]
theorem qmH (m:Nat->Mo) (k:Mo) (w:World) (n i:Nat) (hi:i<n) (hk:m i=k) (h : ∀ j,j<i->m j≠k):(Instr.findAsking 127 (moV k) (qec m n) 0).run Tryz.prog w = .ok (some (i,.int .i64 i)) w:=by
 have hsplit:qec m n=(List.range' 0 i).map (ent m) ++ (ent m i :: (List.range' (i+1) (n - i - 1)).map (ent m)):=by
  unfold qec;rw [List.range_eq_range',show n=i+((n - i - 1)+1) from by omega,<- List.range'_append_1,List.map_append,Nat.zero_add,List.range'_succ,List.map_cons];simp only [show i+(n - i - 1+1) - i - 1=n - i - 1 from by omega]
 rw [hsplit,qhQ m k w i 0 (fun j _ h2=>h j (by omega)) _,Nat.zero_add];simp only [Instr.findAsking,Sem.run_bind];show ((Op.equal 127 (moV k) (moV (m i))).run Tryz.prog w).andThen _=_;rw [qsI,Result.andThen_ok,decide_eq_true hk.symm];simp [go_sem,ent]
theorem qea (m:Nat->Mo) (k:Mo) (w:World) (n:Nat):(Instr.findKey 127 (moV k) (qec m n)).run Tryz.prog w=(Instr.findAsking 127 (moV k) (qec m n) 0).run Tryz.prog w:=by
 simp only [Instr.findKey,Sem.run_bind,run_underlying Tryz.underlying127,Result.andThen_ok]
 cases n with
 | zero=>simp [qec,Instr.findNow,Instr.findAsking,go_sem]
 | succ n=>
  have:qec m (n+1)=ent m 0 :: (List.range' 1 n).map (ent m):=by
   unfold qec;rw [List.range_eq_range',List.range'_succ,List.map_cons]
  rw [this];simp [Instr.findNow,Instr.sameNow,ent]
theorem qoo {w : World} {r n : Nat} {m : Nat -> Mo} (h : qcs w r n m) (k : Mo) (i : Nat) (hi : i < n) (hk : m i = k) (hj : ∀ j, j < i -> m j ≠ k) :
  (Instr.lookup 188 (.map (some r)) (moV k) true).run Tryz.prog w = .ok (.tuple #[.int .i64 i,.bool true]) w:=by
 unfold qcs at h;simp only [Instr.lookup,Sem.run_bind,run_underlying Tryz.underlying188,Result.andThen_ok]
 have hg:(getObj r).run Tryz.prog w = .ok (.map (qec m n).toArray n) w:=by simp [getObj,Sem.run,h]
 simp only [hg,Result.andThen_ok,Sem.run_bind,Sem.run_pure,qrl,qea,qmH m k w n i hi hk hj,if_true]
theorem qmk {w : World} {r n : Nat} {m : Nat -> Mo} (h : qcs w r n m) (k : Mo) (hj : ∀ j, j < n -> m j ≠ k) :
  (Instr.lookup 188 (.map (some r)) (moV k) true).run Tryz.prog w = .ok (.tuple #[.int .i64 0,.bool false]) w:=by
 unfold qcs at h
 have hz:(zeroValue 3).run Tryz.prog w = .ok (.int .i64 0) w:=by kernel_rfl
 simp only [Instr.lookup,Sem.run_bind,run_underlying Tryz.underlying188,Result.andThen_ok]
 have hg:(getObj r).run Tryz.prog w = .ok (.map (qec m n).toArray n) w:=by simp [getObj,Sem.run,h]
 simp only [hg,Result.andThen_ok,Sem.run_bind,Sem.run_pure,qrl,qea,qhP m k w n hj,hz,if_true]
def qd2 (m:Nat->Mo) (n:Nat) (k:Mo):Nat->Mo:=fun i=>if i=n then k else m i
def World.setObjAt (w:World) (r:Nat) (o:Obj):World:={ w with heap:=w.heap.setIfInBounds r o }
theorem qpT {w : World} {r n : Nat} {m : Nat -> Mo} (h : qcs w r n m) (k : Mo) (hj : ∀ j, j < n -> m j ≠ k) :
  (Instr.mapUpdate 188 (.map (some r)) (moV k) (.int .i64 n)).run Tryz.prog w = .ok () (World.setObjAt w r (.map (qec (qd2 m n k) (n+1)).toArray (n+1))):=by
 have h':=h;unfold qcs at h;simp only [Instr.mapUpdate,Sem.run_bind,run_underlying Tryz.underlying188,Result.andThen_ok]
 have hg:(getObj r).run Tryz.prog w = .ok (.map (qec m n).toArray n) w:=by simp [getObj,Sem.run,h]
 simp only [hg,Result.andThen_ok,Sem.run_bind,Sem.run_pure,qrl,qea,qhP m k w n hj]
 have he:(qec m n).toArray.push { key:=moV k,val:=.int .i64 n,born:=n } = (qec (qd2 m n k) (n+1)).toArray:=by
  unfold qec;rw [List.range_succ,List.map_append];simp only [List.push_toArray]
  congr 1
  congr 1
  ·apply List.map_congr_left;intro i hi
   have:i≠n:=by simp at hi;omega
   simp [ent,qd2,this]
  ·simp [ent,qd2]
 rw [he];simp [setObj,Sem.run,h,World.setObjAt]
theorem qhI {w:World} {r n:Nat} {m:Nat->Mo} (hr:r<w.heap.size):qcs (World.setObjAt w r (.map (qec m n).toArray n)) r n m:=by
 unfold qcs World.setObjAt;simp [hr]
theorem qc1 (w:World) (r b:Nat) (o:Obj) (h:b≠r):(World.setObjAt w r o).heap[b]? = w.heap[b]?:=by
 unfold World.setObjAt;simp only [Array.getElem?_setIfInBounds];rw [if_neg (fun e=>h e.symm)]
theorem qdo (w:World) (r:Nat) (o:Obj):w.grownBy (World.setObjAt w r o) (some r):=
 ⟨rfl,rfl,rfl,by simp [World.setObjAt],fun k _ hk=>qc1 w r k o (fun e=>hk (by rw [e]))⟩
theorem qcs.lt {w:World} {r n:Nat} {m:Nat->Mo} (h:qcs w r n m):r<w.heap.size:=by
 unfold qcs at h;exact (Array.getElem?_eq_some_iff.1 h).1
theorem qcs.of_heap {w w':World} {r n:Nat} {m:Nat->Mo} (h:qcs w r n m) (he:w'.heap[r]? = w.heap[r]?):qcs w' r n m:=by unfold qcs at *;rw [he];exact h

attribute [local go_sem ↓] Go.wp_at_zero Go.wp_at_succ

def qbT (c0 c1:Nat->Value) (m:Nat->Mo):Nat->Value:=fun j=>
 if j % 6=0 then c0 (j / 6) else if j % 6=1 then c1 (j / 6) else if j % 6=2 then .int .i64 (m (j / 6)).a else if j % 6=3 then .int .i64 (m (j / 6)).b else if j % 6=4 then .int .i64 (m (j / 6)).c else .int .i64 (m (j / 6)).d
section
variable (c0 c1:Nat->Value) (m:Nat->Mo) (i:Nat)
theorem qfL:qbT c0 c1 m (i*6)=c0 i:=by unfold qbT;rw [show i*6 % 6=0 from by omega,show i*6 / 6=i from by omega];rfl
theorem qfK:qbT c0 c1 m (i*6+1)=c1 i:=by unfold qbT;rw [show (i*6+1) % 6=1 from by omega,show (i*6+1) / 6=i from by omega];rfl
theorem qhr:qbT c0 c1 m (i*6+2) = .int .i64 (m i).a:=by unfold qbT;rw [show (i*6+2) % 6=2 from by omega,show (i*6+2) / 6=i from by omega];rfl
theorem qhq:qbT c0 c1 m (i*6+3) = .int .i64 (m i).b:=by unfold qbT;rw [show (i*6+3) % 6=3 from by omega,show (i*6+3) / 6=i from by omega];rfl
theorem qhp:qbT c0 c1 m (i*6+4) = .int .i64 (m i).c:=by unfold qbT;rw [show (i*6+4) % 6=4 from by omega,show (i*6+4) / 6=i from by omega];rfl
theorem qho:qbT c0 c1 m (i*6+5) = .int .i64 (m i).d:=by unfold qbT;rw [show (i*6+5) % 6=5 from by omega,show (i*6+5) / 6=i from by omega];rfl
end
def GM (M:Nat->Prop) (g r:Nat) (tv:Value):Nat->Prop:=fun b=>M b∨b=g∨b=r∨tv.ownBlock=some b
def GSt (M:Nat->Prop) (base:Nat) (w:World) (g n:Nat) (z:Nat->Int) (m:Nat->Mo):Prop:=
 ∃ (r:Nat) (tv:Value) (c0 c1:Nat->Value),Blk w g 190 2 (arr #[.map (some r),tv])/\base<=g/\base<=r/\r≠g/\tv.ownBlock≠some g/\tv.ownBlock≠some r/\qcs w r n m /\
  Own w base 129 6 tv n (qbT c0 c1 m)/\(∀ i,i<n->qbw (GM M g r tv) w (c0 i) (c1 i) (z i))/\n<=1099511627776
theorem GSt.ext {M:Nat->Prop} {base:Nat} {w w':World} {g n:Nat} {z:Nat->Int} {m:Nat->Mo} (h:GSt M base w g n z m) (he:Ext w w'):GSt M base w' g n z m:=by
 obtain ⟨r,tv,c0,c1,h1,h2,h3,h4,h5,h6,h7,h8,h9,h10⟩:=h;exact ⟨r,tv,c0,c1,h1.ext he,h2,h3,h4,h5,h6,h7.of_heap (he.heap h7.lt),h8.ext he,fun i hi=>(h9 i hi).ext he,h10⟩
theorem GSt.lt {M:Nat->Prop} {base:Nat} {w:World} {g n:Nat} {z:Nat->Int} {m:Nat->Mo} (h:GSt M base w g n z m):base<=g/\g<w.heap.size:=by
 obtain ⟨r,tv,c0,c1,h1,h2,_⟩:=h;exact ⟨h2,h1.lt⟩
def qii (w:World) (g b:Nat):Prop:=b=g∨w.cell? ⟨g,0,none⟩=some (.map (some b)) ∨ ∃ v:Value,w.cell? ⟨g,1,none⟩=some v/\v.ownBlock=some b
def Fr (g:Nat) (w w':World):Prop:=w.heap.size<=w'.heap.size/\(∀ b,b<w.heap.size -> ¬ qii w g b->w'.heap[b]? = w.heap[b]?)/\(∀ b,qii w' g b->qii w g b∨w.heap.size<=b)/\w'.cell? ⟨g,0,none⟩=w.cell? ⟨g,0,none⟩
theorem qii.ext {w w':World} (he:Ext w w') {g b:Nat} (hg:g<w.heap.size) (h:qii w' g b):qii w g b:=by
 unfold qii at *;rw [he.cell hg,he.cell hg] at h;exact h
theorem Fr.of_ext {g:Nat} {w w':World} (hg:g<w.heap.size) (he:Ext w w'):Fr g w w':=⟨he.size,fun b hb _=>he.heap hb,fun _ h=>.inl (h.ext he hg),he.cell hg⟩
theorem Blk.gblk {w:World} {g:Nat} {t:TypeId} {r:Nat} {tv:Value} (h:Blk w g t 2 (arr #[.map (some r),tv])) (b:Nat):qii w g b↔b=g∨b=r∨tv.ownBlock=some b:=by
 unfold qii;rw [h.cell (i:=0) (by omega),h.cell (i:=1) (by omega)];simp only [arr,Option.some.injEq];constructor
 ·rintro (h | h | ⟨v,h1,h2⟩)
  ·exact .inl h
  ·simp at h;exact .inr (.inl h.symm)
  ·simp at h1;subst h1;exact .inr (.inr h2)
 ·rintro (h | h | h)
  ·exact .inl h
  ·subst h;exact .inr (.inl (by simp))
  ·exact .inr (.inr ⟨tv,by simp,h⟩)
theorem GSt.gblk {M:Nat->Prop} {base:Nat} {w:World} {g n:Nat} {z:Nat->Int} {m:Nat->Mo} (h:GSt M base w g n z m) {b:Nat} (hb:qii w g b):base<=b/\b<w.heap.size:=by
 obtain ⟨r,tv,c0,c1,h1,h2,h3,h4,h5,h6,h7,h8,h9,h10⟩:=h;rcases (h1.gblk b).1 hb with rfl | rfl | hb
 ·exact ⟨h2,h1.lt⟩
 ·exact ⟨h3,h7.lt⟩
 ·exact h8.lt b hb
theorem Fr.hit {g tb o1 o2:Nat} {w w2:World} {u v:Value} (he:Ext w w2) (hg:g<w.heap.size) (hne:g≠tb) (hb:qii w g tb):Fr g w ((w2.setCell ⟨tb,o1,none⟩ u).setCell ⟨tb,o2,none⟩ v):=by
 have hc : ∀ o,((w2.setCell ⟨tb,o1,none⟩ u).setCell ⟨tb,o2,none⟩ v).cell? ⟨g,o,none⟩=w.cell? ⟨g,o,none⟩:=fun o=>by
  rw [<- he.cell hg];refine World.cell?_of_block ?_;show _=w2.heap[g]?;rw [Below.heap_setCell _ _ _ _ hne,Below.heap_setCell _ _ _ _ hne]
 refine ⟨by simpa [World.setCell] using he.size,fun b hb' hn=>?_,fun b hb'=>?_,hc 0⟩
 ·have hbt:b≠tb:=fun e=>hn (e ▸ hb);rw [Below.heap_setCell _ _ _ _ hbt,Below.heap_setCell _ _ _ _ hbt,he.heap hb']
 ·left;unfold qii at *;rw [hc,hc] at hb';exact hb'
theorem qc4 {w w':World} (h:Ext w w') {B:Nat} (hB:B<=w.heap.size):Below B w w':=Below.mono h hB

theorem qkH (M : Nat -> Prop) (base g : Nat) (k : Mo) (d0 d1 : Value) (c : Int) (w : World) (hI : qbq M w d0 d1 c) (hn : k.nn = false) :
  Calls Tryz.prog 147 #[.pointer (some ⟨g,0,none⟩),moV k,.agg #[d0,d1]] w fun e w'=>e = .returned (.tuple #[])/\Ext w w':=by
 obtain ⟨b1,a1,n1,p1,rfl,rfl⟩:=hI.form
 have hnn:(!k.nn)=true:=by simp [hn]
 have ctr:=fun W=>qdq k W;rw [hnn] at ctr;have CTR:=Lib.hid ctr;clear ctr hnn hn;have hE:Hid (Ext w ((w.alloc (.cells #[.int .i64 k.a,.int .i64 k.b,.int .i64 k.c,.int .i64 k.d] 127)).alloc (.cells #[.bool b1,.slice a1 n1 p1] 30))):=((Ext.refl w).alloc _).alloc _
 go_enter Tryz.func147,Tryz.ntmps147
 go_wp2_with (fail);refine (CTR.out _).mono ?_;rintro e w1 ⟨rfl,he1⟩;go_wp2;refine bodyPost_ret (results_none rfl _ _ _) rfl ?_;exact ⟨rfl,hE.out.trans he1⟩
def qhk (c:Nat->Value) (i:Nat) (u:Value):Nat->Value:=fun j=>if j=i then u else c j
theorem qlu (c0 c1:Nat->Value) (m:Nat->Mo) (i:Nat) (u v:Value) (j:Nat):upd (upd (qbT c0 c1 m) (i*6) u) (i*6+1) v j=qbT (qhk c0 i u) (qhk c1 i v) m j:=by
 unfold upd qbT qhk
 by_cases h1:j=i*6+1
 ·subst h1;rw [if_pos rfl,show (i*6+1) % 6=1 from by omega,show (i*6+1) / 6=i from by omega];simp
 ·rw [if_neg h1]
  by_cases h2:j=i*6
  ·subst h2;rw [if_pos rfl,show (i*6) % 6=0 from by omega,show (i*6) / 6=i from by omega];simp
  ·rw [if_neg h2]
   by_cases h3:j % 6=0
   ·rw [if_pos h3,if_pos h3,if_neg (by omega)]
   ·rw [if_neg h3,if_neg h3]
    by_cases h4:j % 6=1
    ·rw [if_pos h4,if_pos h4,if_neg (by omega)]
    ·rw [if_neg h4,if_neg h4]
theorem qqR {M : Nat -> Prop} {base : Nat} {w1 w2 : World} {g n r tb cap i : Nat} {z : Nat -> Int} {m : Nat -> Mo} {F c0 c1 : Nat -> Value} {c : Int} {u v : Value}
  (hB:Blk w1 g 190 2 (arr #[.map (some r),.slice (some ⟨tb,0,none⟩) n cap])) (hbg:base<=g) (hbr:base<=r) (hrg:r≠g) (htg:Value.ownBlock (.slice (some ⟨tb,0,none⟩) n cap)≠some g) (htr:Value.ownBlock (.slice (some ⟨tb,0,none⟩) n cap)≠some r)
  (hMp:qcs w1 r n m) (hbt:base<=tb) (hBt:Blk w1 tb 129 (cap*6) F) (hncap:n<=cap) (hcm:cap<=maxLen) (hF : ∀ j,j<n*6->F j=qbT c0 c1 m j)
  (hC : ∀ i,i<n->qbw (GM M g r (.slice (some ⟨tb,0,none⟩) n cap)) w1 (c0 i) (c1 i) (z i)) (hnL:n<=1099511627776) (hi:i<n) (he:Ext w1 w2) (hc:qbw (GM M g r (.slice (some ⟨tb,0,none⟩) n cap)) w2 u v (z i+c)) :
  GSt M base ((w2.setCell ⟨tb,i*6,none⟩ u).setCell ⟨tb,i*6+1,none⟩ v) g n (fun j=>if j=i then z j+c else z j) m:=by
 have hng:g≠tb:=fun e=>htg (by rw [e];rfl);have hnr:r≠tb:=fun e=>htr (by rw [e];rfl);have hkp:Kp (GM M g r (.slice (some ⟨tb,0,none⟩) n cap)) w2 ((w2.setCell ⟨tb,i*6,none⟩ u).setCell ⟨tb,i*6+1,none⟩ v):=(Kp.set _ _ (.inr (.inr (.inr rfl))) _).trans (Kp.set _ _ (.inr (.inr (.inr rfl))) _);refine ⟨r,.slice (some ⟨tb,0,none⟩) n cap,qhk c0 i u,qhk c1 i v,((hB.ext he).set_other hng _).set_other hng _,hbg,hbr,hrg,htg,htr,?_,.inr ⟨tb,cap,_,rfl,hbt,(((hBt.ext he).set (i*6) u).set (i*6+1) v),hncap,hcm,fun j hj=>?_⟩,fun j hj=>?_,hnL⟩
 ·refine (hMp.of_heap (he.heap hMp.lt)).of_heap ?_;rw [Below.heap_setCell _ _ _ _ hnr,Below.heap_setCell _ _ _ _ hnr]
 ·rw [<- qlu];unfold upd
  by_cases h1:j=i*6+1
  ·rw [if_pos h1,if_pos h1]
  ·rw [if_neg h1,if_neg h1]
   by_cases h2:j=i*6
   ·rw [if_pos h2,if_pos h2]
   ·rw [if_neg h2,if_neg h2,hF j hj]
 ·by_cases hji:j=i
  ·subst hji;simp only [qhk,if_true];exact hc.kp hkp
  ·simp only [qhk,if_neg hji];exact ((hC j hj).ext he).kp hkp
theorem qkI (M : Nat -> Prop) (base g n : Nat) (z : Nat -> Int) (m : Nat -> Mo) (k : Mo) (d0 d1 : Value) (c : Int) (w : World) (hM : Mb M w) (hI : qbq M w d0 d1 c) (hG : GSt M base w g n z m) (hIg : qbq (fun b => M b ∨ qii w g b) w d0 d1 c)
  (hn:k.nn=true) (i:Nat) (hi:i<n) (hk:m i=k) (hj : ∀ j,j<i->m j≠k) (hL:dlen ((z i).natAbs+c.natAbs)<=1099511627776) :
  Calls Tryz.prog 147 #[.pointer (some ⟨g,0,none⟩),moV k,.agg #[d0,d1]] w fun e w'=>e = .returned (.tuple #[])/\GSt M base w' g n (fun j=>if j=i then z j+c else z j) m/\Below base w w'/\Fr g w w':=by
 obtain ⟨b1,a1,n1,p1,rfl,rfl⟩:=hI.form
 have hnn:(!k.nn)=false:=by simp [hn]
 have ctr:=fun W=>qdq k W;rw [hnn] at ctr;have CTR:=Lib.hid ctr;clear ctr hnn hn;have hE:Hid (Ext w ((w.alloc (.cells #[.int .i64 k.a,.int .i64 k.b,.int .i64 k.c,.int .i64 k.d] 127)).alloc (.cells #[.bool b1,.slice a1 n1 p1] 30))):=((Ext.refl w).alloc _).alloc _;have HK:=Lib.hid hk;have HJ:=Lib.hid hj;clear hk hj
 have hbw:base<=w.heap.size:=by have:=hG.lt;omega
 go_enter Tryz.func147,Tryz.ntmps147
 go_wp2_with (fail);refine (CTR.out _).mono ?_;rintro e w1 ⟨rfl,he1⟩;have hG1:=hG.ext (hE.out.trans he1);have hI1:=hIg.ext (hE.out.trans he1);obtain ⟨hcc,hff⟩:=qhc he1
 have B4:w1.cell? ⟨w.heap.size,0,none⟩=some (.int .i64 k.a)/\w1.cell? ⟨w.heap.size,1,none⟩=some (.int .i64 k.b)/\w1.cell? ⟨w.heap.size,2,none⟩=some (.int .i64 k.c)/\w1.cell? ⟨w.heap.size,3,none⟩=some (.int .i64 k.d)/\w1.cell? ⟨w.heap.size+1,0,none⟩=some (.bool b1)/\w1.cell? ⟨w.heap.size+1,1,none⟩=some (.slice a1 n1 p1):=by
  refine ⟨?_,?_,?_,?_,?_,?_⟩ <;> (rw [hcc _ _ (by simp;try omega)];simp [go_sem])
 obtain ⟨x0,x1,x2,x3,y0,y1⟩:=B4;clear hcc hff;obtain ⟨r,tv,c0,c1,hB,hbg,hbr,hrg,htg,htr,hMp,hO,hC,hnL⟩:=hG1;obtain ⟨tb,cap,F,rfl,hbt,hBt,hncap,hcm,hF⟩:=hO.some (by omega);have HGB:Hid (∀ b,b=g∨b=r∨Value.ownBlock (.slice (some ⟨tb,0,none⟩) n cap)=some b->qii w g b):=fun b hb=>((hB.gblk b).2 hb).ext (hE.out.trans he1) hG.lt.2;have hgl:=hG.lt.2
 have hlk : ∀ nq,(Instr.lookup 188 (.map (some r)) (.agg #[.int .i64 k.a,.int .i64 k.b,.int .i64 k.c,.int .i64 k.d]) true).run Tryz.prog (w1.drewN nq) = .ok (.tuple #[.int .i64 i,.bool true]) (w1.drewN nq):=fun nq=>
  qoo (w:=w1.drewN nq) (by exact hMp) k i hi HK.out HJ.out
 have g0:=hB.cell (i:=0) (by omega);have g1:=hB.cell (i:=1) (by omega);simp only [arr] at g0 g1;obtain ⟨b2,a2,n2,p2,e20,e21⟩:=(hC i hi).form
 have t0:w1.cell? ⟨tb,i*6,none⟩=some (.bool b2):=by rw [hBt.cell (by omega),hF _ (by omega),qfL,e20]
 have t1:w1.cell? ⟨tb,i*6+1,none⟩=some (.slice a2 n2 p2):=by rw [hBt.cell (by omega),hF _ (by omega),qfK,e21]
 have l0:(0:Int)<=(i:Int):=Int.natCast_nonneg _
 have l1:(i:Int)<(n:Int):=by omega
 go_wp2
 go_quiet (fail)
 go_wp2
 have hMg:Mb (GM M g r (.slice (some ⟨tb,0,none⟩) n cap)) w1:=by
  intro b hb;rcases hb with hb | rfl | rfl | hb
  ·exact (hM.ext (hE.out.trans he1)) b hb
  ·exact hB.lt
  ·exact hMp.lt
  ·simp only [Value.ownBlock,Option.some.injEq] at hb;subst hb;exact hBt.lt
 have hI2:qbq (GM M g r (.slice (some ⟨tb,0,none⟩) n cap)) w1 (.bool b1) (.slice a1 n1 p1) c:=hI1.more (by
  intro b hb;rcases hb with hb | rfl | rfl | hb
  ·exact .inl (.inl hb)
  ·exact .inl (.inr (HGB.out _ (.inl rfl)))
  ·exact .inl (.inr (HGB.out _ (.inr (.inl rfl))))
  ·exact .inl (.inr (HGB.out _ (.inr (.inr hb)))))
 have hCi:=(hC i hi).toV;rw [e20,e21] at hCi;have HCi:=Lib.hid hCi;have HI2:=Lib.hid hI2;have HMg:=Lib.hid hMg;have HC:=Lib.hid hC;clear hCi hI2 hMg hC hlk
 go_region_with (go_at_call 124;refine (qiH (M:=GM M g r (.slice (some ⟨tb,0,none⟩) n cap)) _ _ _ _ (z i) c _ ?_ ?_ ?_ hL).mono ?_;(exact HMg.out.ext ((Ext.refl _).drewN _));(exact HCi.out.ext ((Ext.refl _).drewN _));(exact HI2.out.ext ((Ext.refl _).drewN _));rintro e w2 ⟨f0,f1,rfl,hc,he2⟩;obtain ⟨b5,a5,n5,p5,rfl,rfl⟩:=hc.form;have he3:=((Ext.refl w1).drewN _).trans he2;have q0:=kc he3 t0;have q1:=kc he3 t1;have q2:=kc he3 g1;have q3:=(hBt.ext he3).frozen (i*6);have q4:=(hBt.ext he3).frozen (i*6+1))
 all_goals
  go_wp2;refine bodyPost_ret (results_none rfl _ _ _) rfl ?_;refine ⟨rfl,qqR hB hbg hbr hrg htg htr hMp hbt hBt hncap hcm hF HC.out hnL hi he3 hc,?_⟩;exact ⟨((qc4 ((hE.out.trans he1).trans he3) hbw).setCell hbt _).setCell hbt _,Fr.hit ((hE.out.trans he1).trans he3) hgl (fun e=>htg (by rw [e];rfl)) (HGB.out _ (.inr (.inr rfl)))⟩
end Go.Proofs.YtmcfpnmoklnhoaaGreat

namespace Go.Proofs.YtmcfpnmoklnhoaaGreat
open Go.RowKit
attribute [local go_sem ↓] Go.wp_at_zero Go.wp_at_succ

theorem kso {w:World} {r b o:Nat} {x:Obj} {v:Value} (hne:b≠r) (hc:w.cell? ⟨b,o,none⟩=some v):(World.setObjAt w r x).cell? ⟨b,o,none⟩=some v:=by
 rw [World.cell?_of_block (w:=w) (qc1 w r b x hne)];exact hc
theorem qlw {P : Program} {ops : Array Oper} {o : Oper} {a : Act} {w : World} {K : Act -> World -> Prop} {Q : Exit -> Act -> World -> Prop} {E : Prop} (hgd : o.guard = none) (f : FuncId) (args : Array Operand) (tys : Array TypeId)
  (ho:o.op = .call { callee:=.value (.func f),args:=args,argTypes:=tys }) (hcf : ∀ vs w,(callFunc f vs).run P w = .ok (.enter f vs) w) (vs:Array Value) (hv:args.map a.eval=vs) {R:Ending->World->Prop} (hR:Calls P f vs w R)
  (h : ∀ e w',R e w' -> ∃ v,e = .returned v/\K (a.put o.dst v) w'):if Region.wanted o (yielded ops a.tmps)=true then Oper.wp P o a w K Q else E:=by
 have hw:Region.wanted o (yielded ops a.tmps)=true:=by simp [Region.wanted,hgd]
 rw [if_pos hw];unfold Oper.wp
 have hrun:(execOp a.eval o).run P w = .ok (.enter f vs) w:=by
  simp only [execOp,ho,resolve,hv,Sem.run_bind];show ((Deferred.ofValue (.func (.func f) #[] #[]) vs).run P w).andThen _=_;simp [Deferred.ofValue,invoke,hcf,go_sem]
 rw [hrun,Oper.upon_enter];refine hR.mono fun e w' hr=>?_;obtain ⟨v,rfl,hk⟩:=h e w' hr;exact hk
theorem qkp {P : Program} {ops : Array Oper} {o : Oper} {a : Act} {w : World} {K : Act -> World -> Prop} {Q : Exit -> Act -> World -> Prop} {E : Prop} (hgd : o.guard = none) (f : FuncId) (x : Operand) (tys : Array TypeId)
  (ho:o.op = .call { callee:=.value (.func f),args:=#[x],argTypes:=tys }) (hcf : ∀ vs w,(callFunc f vs).run P w = .ok (.enter f vs) w) (v:Value) (hv:a.eval x=v) {R:Ending->World->Prop} (hR:Calls P f #[v] w R)
  (h : ∀ e w',R e w' -> ∃ v,e = .returned v/\K (a.put o.dst v) w'):if Region.wanted o (yielded ops a.tmps)=true then Oper.wp P o a w K Q else E:=
 qlw hgd f #[x] tys ho hcf #[v] (by simp [hv]) hR h
theorem qno (vs:Array Value) (w:World):(callFunc 101 vs).run Tryz.prog w = .ok (.enter 101 vs) w:=by kernel_rfl
theorem Tryz.info129:(Tryz.prog.info? 129).map (fun i=>(i.zero,i.size,i.bytes))=some (some (.agg #[.bool false,.slice none 0 0,.int .i64 0,.int .i64 0,.int .i64 0,.int .i64 0]),6,64):=by kernel_rfl
theorem qhn (c0 c1 : Nat -> Value) (m : Nat -> Mo) (n : Nat) (k : Mo) (u v : Value) (j : Nat) (hj : j < (n + 1) * 6) :
  app (qbT c0 c1 m) (n*6) (arr #[u,v,.int .i64 k.a,.int .i64 k.b,.int .i64 k.c,.int .i64 k.d]) j=qbT (qhk c0 n u) (qhk c1 n v) (qd2 m n k) j:=by
 unfold app
 by_cases h:j<n*6
 ·rw [if_pos h];unfold qbT qhk qd2;rw [if_neg (show ¬ j / 6=n by omega),if_neg (show ¬ j / 6=n by omega),if_neg (show ¬ j / 6=n by omega)]
 ·rw [if_neg h];obtain ⟨i,rfl⟩ : ∃ i,j=n*6+i:=⟨j - n*6,by omega⟩
  have hi:i<6:=by omega
  rw [show n*6+i - n*6=i from by omega]
  match i,hi with
  | 0,_=>rw [Nat.add_zero,qfL];simp [qhk,arr]
  | 1,_=>rw [qfK];simp [qhk,arr]
  | 2,_=>rw [qhr];simp [qd2,arr]
  | 3,_=>rw [qhq];simp [qd2,arr]
  | 4,_=>rw [qhp];simp [qd2,arr]
  | 5,_=>rw [qho];simp [qd2,arr]
theorem qqQ {M : Nat -> Prop} {base : Nat} {wc W w5 : World} {g n r gg cap : Nat} {tv : Value} {z : Nat -> Int} {m : Nat -> Mo} {c0 c1 : Nat -> Value} {c : Int} {u v : Value} {k : Mo}
  (hB6:Blk w5 g 190 2 (arr #[.map (some r),tv])) (hbg:base<=g) (hbr:base<=r) (hrg:r≠g) (htg:tv.ownBlock≠some g) (htr:tv.ownBlock≠some r)
  (hMp:qcs wc r (n+1) (qd2 m n k)) (hgl:g<wc.heap.size) (hC : ∀ i,i<n->qbw (GM M g r tv) wc (c0 i) (c1 i) (z i)) (hc:qbw (GM M g r tv) W u v c) (he:Ext wc W)
  (hO6:Own w5 base 129 6 (.slice (some ⟨gg,0,none⟩) (n+1) cap) (n+1) (app (qbT c0 c1 m) (n*6) (arr #[u,v,.int .i64 k.a,.int .i64 k.b,.int .i64 k.c,.int .i64 k.d])))
  (hg6:W.grownBy w5 tv.ownBlock) (hat:tv.ownBlock=some gg∨W.heap.size<=gg) (hnL:n+1<=1099511627776) :
  GSt M base (w5.setCell ⟨g,1,none⟩ (.slice (some ⟨gg,0,none⟩) (n+1) cap)) g (n+1) (fun j=>if j=n then c else z j) (qd2 m n k):=by
 have hrl:r<wc.heap.size:=hMp.lt;have hws:=he.size
 have hng:gg≠g:=fun e=>by
  rcases hat with h | h
  ·exact htg (by rw [h,e])
  ·omega
 have hnr:gg≠r:=fun e=>by
  rcases hat with h | h
  ·exact htr (by rw [h,e])
  ·omega
 have key : ∀ {x y:Value} {q:Int},qbw (GM M g r tv) W x y q->qbw (GM M g r (.slice (some ⟨gg,0,none⟩) (n+1) cap)) (w5.setCell ⟨g,1,none⟩ (.slice (some ⟨gg,0,none⟩) (n+1) cap)) x y q:=by
  intro x y q hq
  have h1:=hq.more (M':=fun b=>GM M g r tv b∨b=gg) (by
   rintro b (hb | rfl)
   ·exact .inl hb
   ·rcases hat with h | h
    ·exact .inl (.inr (.inr (.inr h)))
    ·exact .inr h)
  have h2:=h1.kp (w':=w5) (Kp.grown hg6 (fun b hb=>.inl (.inr (.inr (.inr hb)))));have h3:=h2.kp (Kp.set _ w5 (p:=⟨g,1,none⟩) (.inl (.inr (.inl rfl))) (.slice (some ⟨gg,0,none⟩) (n+1) cap));refine h3.more (fun b hb=>.inl ?_);rcases hb with hb | hb | hb | hb
  ·exact .inl (.inl hb)
  ·exact .inl (.inr (.inl hb))
  ·exact .inl (.inr (.inr (.inl hb)))
  ·simp only [Value.ownBlock,Option.some.injEq] at hb;exact .inr hb.symm
 refine ⟨r,.slice (some ⟨gg,0,none⟩) (n+1) cap,qhk c0 n u,qhk c1 n v,(hB6.set 1 _).congr (fun i hi=>?_),hbg,hbr,hrg,by simpa [Value.ownBlock] using hng,by simpa [Value.ownBlock] using hnr,?_,(hO6.of_heap (fun b hb=>?_)).congr (fun j hj=>qhn c0 c1 m n k u v j hj),fun i hi=>?_,hnL⟩
 ·have:i=0∨i=1:=by omega
  rcases this with rfl | rfl <;> simp [upd,arr]
 ·refine ((hMp.of_heap (he.heap hrl)).of_heap (hg6.block r (by omega) (Ne.symm htr))).of_heap ?_;exact Below.heap_setCell _ _ _ _ hrg
 ·simp only [Value.ownBlock,Option.some.injEq] at hb;subst hb;exact Below.heap_setCell _ _ _ _ hng
 ·by_cases hin:i=n
  ·subst hin;simp only [qhk,if_true];exact key hc
  ·simp only [qhk,if_neg hin];exact key ((hC i (by omega)).ext he)
theorem Fr.new {g r gg k cap : Nat} {t t' : TypeId} {tv : Value} {w w1 wc W w5 : World} (he : Ext w w1) (hg3 : w1.grownBy wc (some r)) (heW : Ext wc W) (hg6 : W.grownBy w5 tv.ownBlock) (hB : Blk w g t 2 (arr #[.map (some r), tv])) (hB6 : Blk w5 g t' 2 (arr #[.map (some r), tv]))
  (hat:tv.ownBlock=some gg∨W.heap.size<=gg):Fr g w (w5.setCell ⟨g,1,none⟩ (.slice (some ⟨gg,0,none⟩) k cap)):=by
 have hs:=he.size;have hs3:=hg3.size;have hsW:=heW.size;have hs6:=hg6.size
 have hB7:Blk (w5.setCell ⟨g,1,none⟩ (.slice (some ⟨gg,0,none⟩) k cap)) g t' 2 (arr #[.map (some r),.slice (some ⟨gg,0,none⟩) k cap]):=(hB6.set 1 _).congr (fun i hi=>by
  have:i=0∨i=1:=by omega
  rcases this with rfl | rfl <;> simp [upd,arr])
 refine ⟨by simp [World.setCell];omega,fun b hb hn=>?_,fun b hb=>?_,by rw [hB7.cell (i:=0) (by omega),hB.cell (i:=0) (by omega)];rfl⟩
 ·have hn':=fun h=>hn ((hB.gblk b).2 h);rw [Below.heap_setCell _ _ _ _ (fun e=>hn' (.inl e)),hg6.block b (by omega) (fun e=>hn' (.inr (.inr e.symm))),heW.heap (by omega),hg3.block b (by omega) (fun e=>hn' (.inr (.inl (by cases e;rfl)))),he.heap hb]
 ·rcases (hB7.gblk b).1 hb with h | h | h
  ·exact .inl ((hB.gblk b).2 (.inl h))
  ·exact .inl ((hB.gblk b).2 (.inr (.inl h)))
  ·simp only [Value.ownBlock,Option.some.injEq] at h;subst h;rcases hat with h | h
   ·exact .inl ((hB.gblk _).2 (.inr (.inr h)))
   ·right;omega
theorem qkG (M : Nat -> Prop) (base g n : Nat) (z : Nat -> Int) (m : Nat -> Mo) (k : Mo) (d0 d1 : Value) (c : Int) (w : World) (hM : Mb M w) (hI : qbq M w d0 d1 c) (hG : GSt M base w g n z m) (hIg : qbq (fun b => M b ∨ qii w g b) w d0 d1 c)
  (hn:k.nn=true) (hj : ∀ j,j<n->m j≠k) (hnL1:n+1<=1099511627776) :
  Calls Tryz.prog 147 #[.pointer (some ⟨g,0,none⟩),moV k,.agg #[d0,d1]] w fun e w'=>e = .returned (.tuple #[])/\GSt M base w' g (n+1) (fun j=>if j=n then c else z j) (qd2 m n k)/\Below base w w'/\Fr g w w':=by
 obtain ⟨i0,hi,hz0,hz1,hz2⟩:=info_parts Tryz.info129;obtain ⟨b1,a1,n1,p1,rfl,rfl⟩:=hI.form
 have hnn:(!k.nn)=false:=by simp [hn]
 have ctr:=fun W=>qdq k W;rw [hnn] at ctr;have CTR:=Lib.hid ctr;clear ctr hnn hn;have hE:Hid (Ext w ((w.alloc (.cells #[.int .i64 k.a,.int .i64 k.b,.int .i64 k.c,.int .i64 k.d] 127)).alloc (.cells #[.bool b1,.slice a1 n1 p1] 30))):=((Ext.refl w).alloc _).alloc _;have HJ:=Lib.hid hj;clear hj
 have hbw:base<=w.heap.size:=by have:=hG.lt;omega
 go_enter Tryz.func147,Tryz.ntmps147
 go_wp2_with (fail);refine (CTR.out _).mono ?_;rintro e w1 ⟨rfl,he1⟩;have hG1:=hG.ext (hE.out.trans he1);have hI1:=hIg.ext (hE.out.trans he1);obtain ⟨hcc,hff⟩:=qhc he1
 have B4:w1.cell? ⟨w.heap.size,0,none⟩=some (.int .i64 k.a)/\w1.cell? ⟨w.heap.size,1,none⟩=some (.int .i64 k.b)/\w1.cell? ⟨w.heap.size,2,none⟩=some (.int .i64 k.c)/\w1.cell? ⟨w.heap.size,3,none⟩=some (.int .i64 k.d)/\w1.cell? ⟨w.heap.size+1,0,none⟩=some (.bool b1)/\w1.cell? ⟨w.heap.size+1,1,none⟩=some (.slice a1 n1 p1):=by
  refine ⟨?_,?_,?_,?_,?_,?_⟩ <;> (rw [hcc _ _ (by simp;try omega)];simp [go_sem])
 obtain ⟨x0,x1,x2,x3,y0,y1⟩:=B4;clear hcc hff
 have hs1:w.heap.size+2<=w1.heap.size:=by have:=he1.size;simp at this;omega
 have hrw : ∀ r0,r0<w.heap.size->r0≠w.heap.size/\r0≠w.heap.size+1:=fun r0 h=>by omega
 have hrlt : ∀ r0 n0 m0,qcs w1 r0 n0 m0->True:=fun _ _ _ _=>trivial;clear hrlt hrw;obtain ⟨r,tv,c0,c1,hB0,hbg,hbr,hrg,htg,htr,hMp0,hO0,hC0,hnL⟩:=hG;have hr1:r<w.heap.size:=hMp0.lt;have hg1:g<w.heap.size:=hB0.lt;have htv : ∀ b,tv.ownBlock=some b->b<w.heap.size:=fun b hb=>(hO0.lt b hb).2;have hEw:=hE.out.trans he1;have HB0:=Lib.hid hB0;have HEW:=Lib.hid hEw;have hB:=hB0.ext hEw;have hMp:=hMp0.of_heap (hEw.heap hr1);have hO:=hO0.ext hEw;have HC:Hid (∀ i,i<n->qbw (GM M g r tv) w1 (c0 i) (c1 i) (z i)):=fun i hi=>(hC0 i hi).ext hEw;clear hG1 hB0 hMp0 hO0 hC0;obtain ⟨ta,tc,rfl⟩:=hO.form
 have hlk : ∀ nq,(Instr.lookup 188 (.map (some r)) (.agg #[.int .i64 k.a,.int .i64 k.b,.int .i64 k.c,.int .i64 k.d]) true).run Tryz.prog (w1.drewN nq) = .ok (.tuple #[.int .i64 0,.bool false]) (w1.drewN nq):=fun nq=>
  qmk (w:=w1.drewN nq) (by exact hMp) k HJ.out
 have g0:=hB.cell (i:=0) (by omega);have g1:=hB.cell (i:=1) (by omega);simp only [arr] at g0 g1;go_wp2
 go_quiet (fail)
 go_wp2
 have hup : ∀ nq,(Instr.mapUpdate 188 (.map (some r)) (.agg #[.int .i64 k.a,.int .i64 k.b,.int .i64 k.c,.int .i64 k.d]) (.int .i64 n)).run Tryz.prog (w1.drewN nq) = .ok () (World.setObjAt (w1.drewN nq) r (.map (qec (qd2 m n k) (n+1)).toArray (n+1))):=fun nq=>
  qpT (w:=w1.drewN nq) (by exact hMp) k HJ.out
 clear hlk
 go_cut [] (fun wx=>Hid (∃ nq,wx=World.setObjAt (w1.drewN nq) r (.map (qec (qd2 m n k) (n+1)).toArray (n+1))))
 case first=>
  go_region_held3 (fun w'=>w'.cell? ⟨g,0,none⟩=some (.map (some r))/\w'.cell? ⟨g,1,none⟩=some (.slice ta n tc)/\w'.cell? ⟨w.heap.size,0,none⟩=some (.int .i64 k.a)/\w'.cell? ⟨w.heap.size,1,none⟩=some (.int .i64 k.b)/\w'.cell? ⟨w.heap.size,2,none⟩=some (.int .i64 k.c)/\w'.cell? ⟨w.heap.size,3,none⟩=some (.int .i64 k.d))
   (first | (((go_split_ands;(repeat' apply And.intro)) <;> (exact kso (by omega) (by assumption)));done) | go_keep)
   (fail)
  all_goals (go_wp2_with fail;go_meet;exact ⟨_,rfl⟩)
 case rest=>
  obtain ⟨nq3,hw3⟩:=hcut.out
  have hg3:w1.grownBy wc (some r):=by
   rw [hw3];exact qbF (((Ext.refl w1).drewN nq3).grownBy _) (qdo _ _ _)
  have hMp3:qcs wc r (n+1) (qd2 m n k):=by rw [hw3];exact qhI hMp.lt
  have hB3:=hB.grown hg3 (by simpa using hrg.symm);have hO3:Own wc base 129 6 (.slice ta n tc) n (qbT c0 c1 m):=hO.of_heap fun b hb=>hg3.block b (hO.lt b hb).2 (fun e=>htr (by rw [hb];exact e));have hkp3:Kp (GM M g r (.slice ta n tc)) w1 wc:=Kp.grown hg3 (fun q hq=>by cases hq;exact .inr (.inr (.inl rfl)));have HC3:Hid (∀ i,i<n->qbw (GM M g r (.slice ta n tc)) wc (c0 i) (c1 i) (z i)):=fun i hi=>(HC.out i hi).kp hkp3
  have hI3:qbq (GM M g r (.slice ta n tc)) wc (.bool b1) (.slice a1 n1 p1) c:=(hI1.more (by
   intro b hb;rcases hb with hb | rfl | rfl | hb
   ·exact .inl (.inl hb)
   ·exact .inl (.inr ((HB0.out.gblk _).2 (.inl rfl)))
   ·exact .inl (.inr ((HB0.out.gblk _).2 (.inr (.inl rfl))))
   ·exact .inl (.inr ((HB0.out.gblk _).2 (.inr (.inr hb)))))).kp hkp3
  have hMg:Mb (GM M g r (.slice ta n tc)) wc:=by
   intro b hb;have hs3:=hg3.size;rcases hb with hb | rfl | rfl | hb
   ·have:=hM b hb;omega
   ·omega
   ·omega
   ·have:=htv b hb;omega
  have hbl3:Below base w wc:=((qc4 hEw hbw).trans (qc4 ((Ext.refl w1).drewN nq3) (by omega))).trans (by rw [hw3];exact ⟨rfl,rfl,rfl,(qdo _ _ _).size,fun q hq=>qc1 _ _ _ _ (by omega)⟩);have e0:=kso (x:=(.map (qec (qd2 m n k) (n+1)).toArray (n+1))) (r:=r) (w:=w1.drewN nq3) (b:=w.heap.size) (by omega) (by exact x0);have e1:=kso (x:=(.map (qec (qd2 m n k) (n+1)).toArray (n+1))) (r:=r) (w:=w1.drewN nq3) (b:=w.heap.size) (by omega) (by exact x1);have e2:=kso (x:=(.map (qec (qd2 m n k) (n+1)).toArray (n+1))) (r:=r) (w:=w1.drewN nq3) (b:=w.heap.size) (by omega) (by exact x2);have e3:=kso (x:=(.map (qec (qd2 m n k) (n+1)).toArray (n+1))) (r:=r) (w:=w1.drewN nq3) (b:=w.heap.size) (by omega) (by exact x3);have e4:=kso (x:=(.map (qec (qd2 m n k) (n+1)).toArray (n+1))) (r:=r) (w:=w1.drewN nq3) (b:=w.heap.size+1) (by omega) (by exact y0);have e5:=kso (x:=(.map (qec (qd2 m n k) (n+1)).toArray (n+1))) (r:=r) (w:=w1.drewN nq3) (b:=w.heap.size+1) (by omega) (by exact y1);rw [<- hw3] at e0 e1 e2 e3 e4 e5;have e6:=hB3.cell (i:=1) (by omega);simp only [arr] at e6
  have hs3:w.heap.size+2<=wc.heap.size:=by have:=hg3.size;omega
  have hone : ∀ (b5:Bool) (a5:Option Addr) (n5 p5:Nat) (j:Nat),j<6->(arr #[.bool b5,.slice a5 n5 p5,.int .i64 k.a,.int .i64 k.b,.int .i64 k.c,.int .i64 k.d] j).oneCell'=true:=by
   intro b5 a5 n5 p5 j hj
   match j,hj with
   | 0,_=>rfl
   | 1,_=>rfl
   | 2,_=>rfl
   | 3,_=>rfl
   | 4,_=>rfl
   | 5,_=>rfl
  have HONE:=Lib.hid hone;clear hone;have HI3:=Lib.hid hI3;have HMg:=Lib.hid hMg;have HG3:=Lib.hid hg3;clear hw3 hcut hup g0 g1 x0 x1 x2 x3 y0 y1 hB hMp hO HC hI1 hkp3 hg3 he1 hI3 hMg;go_wp2
  go_region_law (first | (refine qbP _ (by rfl) (.tmp 51) (.tmp 56) _ (by rfl) base 129 i0 _ 6 64 Tryz.underlying71 hi hz0 hz1 hz2 rfl (by omega) (.slice ta n tc) n (qbT c0 c1 m) (by rfl) hO5 w4.heap.size 129 1 (arr #[.bool b5,.slice a5 n5 p5,.int .i64 k.a,.int .i64 k.b,.int .i64 k.c,.int .i64 k.d]) (by rfl) hB5 (HONE.out b5 a5 n5 p5) (by unfold maxLen;omega) (by omega) hbase5 ?_;intro gg cap w5 hO6 hg6 hat hlt;have hB6:=((hB3.ext he3).alloc (.cells #[.bool b5,.slice a5 n5 p5,.int .i64 k.a,.int .i64 k.b,.int .i64 k.c,.int .i64 k.d] 129)).grown hg6 (Ne.symm htg);have q7:=hB6.cell (i:=1) (by omega);have q8:=hB6.frozen 1) | (refine qkp (by rfl) 101 _ _ (by rfl) qno (.agg #[.bool b1,.slice a1 n1 p1]) (by rfl) (qde (M:=GM M g r (.slice ta n tc)) _ _ c _ (HMg.out.ext (Ext.refl _).drew) (HI3.out.ext (Ext.refl _).drew)) ?_;rintro e w4 ⟨f0,f1,rfl,hc,he4⟩;refine ⟨_,rfl,?_⟩;obtain ⟨b5,a5,n5,p5,rfl,rfl⟩:=hc.form;have he3:=((Ext.refl wc).drew).trans he4;have q0:=kc he3 e0;have q1:=kc he3 e1;have q2:=kc he3 e2;have q3:=kc he3 e3;have q6:=kc he3 e6;have hB5:=Blk.of_arr w4 #[.bool b5,.slice a5 n5 p5,.int .i64 k.a,.int .i64 k.b,.int .i64 k.c,.int .i64 k.d] 129 6 rfl;have hO5:=(hO3.ext he3).ext ((Ext.refl w4).alloc (.cells #[.bool b5,.slice a5 n5 p5,.int .i64 k.a,.int .i64 k.b,.int .i64 k.c,.int .i64 k.d] 129));have hs4:=he3.size;have lg4:g<w4.heap.size:=(by omega);have hbase5:base<=(w4.alloc (.cells #[.bool b5,.slice a5 n5 p5,.int .i64 k.a,.int .i64 k.b,.int .i64 k.c,.int .i64 k.d] 129)).heap.size:=(by simp;omega)))
  all_goals
   go_end0
   refine ⟨rfl,qqQ hB6 hbg hbr hrg htg htr hMp3 (by omega) HC3.out (hc.ext ((Ext.refl w4).alloc _)) (he3.trans ((Ext.refl w4).alloc _)) hO6 hg6 hat hnL1,?_⟩;have hb4:=hbl3.trans (qc4 (he3.trans ((Ext.refl w4).alloc (.cells #[.bool b5,.slice a5 n5 p5,.int .i64 k.a,.int .i64 k.b,.int .i64 k.c,.int .i64 k.d] 129))) (by omega));exact ⟨(hb4.grown hg6 hbase5 (fun q hq=>(hO3.lt q hq).1)).setCell hbg _,Fr.new HEW.out HG3.out (he3.trans ((Ext.refl w4).alloc _)) hg6 HB0.out hB6 hat⟩
end Go.Proofs.YtmcfpnmoklnhoaaGreat
