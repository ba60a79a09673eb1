/- cylinderref20.Few; a polynomial in memory of which nothing is known but its cells. Arguments of the types natural.Nat, integer.Int and sparse.Poly, opened. -/
import Derived.Test.YtmcfpnmoklnhoaaGreatMm
import Derived.Test.YtmcfpnmoklnhoaaGreatMq
set_option linter.unusedVariables false
set_option linter.unusedSimpArgs false

namespace Go.Proofs.YtmcfpnmoklnhoaaGreat
open Go.RowKit

def qun (w:World) (a:Option Addr) (n cap:Nat) (X:Nat->TE):Prop:=
 n<=cap/\cap<=maxLen/\(n=0 ∨ ∃ b off,a=some ⟨b,off,none⟩/\b<w.heap.size /\ ∀ i,i<n->w.cell? ⟨b,off+i*6,none⟩=some (.bool (X i).b)/\w.cell? ⟨b,off+i*6+1,none⟩=some (.slice (X i).a (X i).n (X i).p) /\
  w.cell? ⟨b,off+i*6+2,none⟩=some (.int .i64 (X i).m.a)/\w.cell? ⟨b,off+i*6+3,none⟩=some (.int .i64 (X i).m.b)/\w.cell? ⟨b,off+i*6+4,none⟩=some (.int .i64 (X i).m.c)/\w.cell? ⟨b,off+i*6+5,none⟩=some (.int .i64 (X i).m.d))
theorem qun.ext {w w':World} {a:Option Addr} {n cap:Nat} {X:Nat->TE} (h:qun w a n cap X) (he:Ext w w'):qun w' a n cap X:=by
 obtain ⟨h1,h2,h3⟩:=h;refine ⟨h1,h2,?_⟩;rcases h3 with h3 | ⟨b,off,ha,hb,hc⟩
 ·exact .inl h3
 ·refine .inr ⟨b,off,ha,Nat.lt_of_lt_of_le hb he.size,fun i hi=>?_⟩;rw [he.cell hb,he.cell hb,he.cell hb,he.cell hb,he.cell hb,he.cell hb];exact hc i hi
def okE (E:Int) (m:Mo) (k:Nat):Prop:=-1000<=m.get k/\m.get k<=E
def qwI (D:Nat) (E:Int) (x:TE):Prop:=x.n<=D /\ ∀ k,k<4->okE E x.m (k+1)
def qv5 (n:Nat) (X:Nat->TE) (T D:Nat) (E:Int):Prop:=n<=T /\ ∀ i,i<n->qwI D E (X i)
def qy9 (p:Prop) (w:World) (e:Ending) (w':World):Prop:=∃ b:Bool,e = .returned (.bool b)/\(b=true↔p)/\w=w'
end Go.Proofs.YtmcfpnmoklnhoaaGreat

namespace Go.Proofs.YtmcfpnmoklnhoaaGreat
open Go.ChangeShapes Go.WideShapes Go.ChangeAt Go.RowKit Go.Deep

theorem qpp (a:Addr):a.add 0=a:=by unfold Addr.add;simp
section
variable {H:Type} {enc:TypeId × Value->H} {W:World}
theorem qqm {fuel : Nat} {v : Value} {x : DataW H × List MemPlace} (h : DataW.trod enc Tryz.prog W 0 (fun _ => true) true fuel 28 [v] = some x) :
  ∃ a n cap,v = .slice a n cap/\n<=9223372036854775807/\(n<=1099511627776 -> ∃ d,qbv M0 W (.slice a n cap) n d):=by
 rcases open_ints Tryz.underlying28 Tryz.underlying155 (by kernel_rfl) h with ⟨h0,_⟩ | ⟨a,len,cap,zs,hcs,hb,hl,hm,hz,_,hc,hwf⟩
 ·simp only [List.cons.injEq,and_true] at h0;exact ⟨none,0,0,h0,by omega,fun _=>⟨fun _=>0,qbv.nil _ _⟩⟩
 ·simp only [List.cons.injEq,and_true] at hcs;refine ⟨some a,len,cap,hcs,by unfold maxLen at hm;omega,fun hL=>?_⟩;rw [if_pos rfl] at hz
  have hw : ∀ i,i<len->0<=zs.getD i 0/\zs.getD i 0<4294967296:=by
   intro i hi
   have hi':i<zs.length:=by omega
   have h1:=hwf (zs.getD i 0) (by rw [List.getD_eq_getElem?_getD,List.getElem?_eq_getElem hi'];simp);simp [Lit.wf,IntKind.min,IntKind.max,IntKind.signed,IntKind.bits] at h1
   have h2:zs.getD i 0=zs[i]?.getD 0:=by simp
   rw [h2];omega
  rcases Nat.eq_zero_or_pos len with h0 | h0
  ·subst h0;exact ⟨fun _=>0,hL,(by intro i hi;omega),.inl ⟨rfl,some a,cap,rfl,hm,fun h=>by cases h⟩⟩
  ·refine ⟨fun i=>(zs.getD i 0).toNat,hL,(fun i hi=>by have:=hw i hi;show (zs.getD i 0).toNat<4294967296;omega),.inr ?_⟩;have hc0:=hc 0 (by omega);rw [qpp] at hc0;have hsp:=World.cell?_spot hc0;have hbl:=World.block_lt_of_cell? _ _ hc0;obtain ⟨b,o,s⟩:=a;simp only at hsp hbl;subst hsp;refine ⟨b,o,cap,rfl,hl,hm,⟨hbl,fun h=>h⟩,fun i hi=>?_⟩;have h3:=hc i (by omega);rw [qc5] at h3;rw [h3];have:=hw i hi;simp only [Option.some.injEq,Value.int.injEq,true_and];omega
theorem qqn {fuel : Nat} {v0 v1 : Value} {x : DataW H × List MemPlace} (h : DataW.trod enc Tryz.prog W 0 (fun _ => true) true fuel 30 [v0, v1] = some x) :
  ∃ b a n cap,v0 = .bool b/\v1 = .slice a n cap/\n<=9223372036854775807/\(n<=1099511627776 -> ∃ d,qbv M0 W (.slice a n cap) n d):=by
 obtain ⟨y0,y1,q,_,_,e0,e1⟩:=trod_struct2 Tryz.underlying30 h;rw [show Tryz.prog.cellsOf 4=1 by kernel_rfl] at e0;rw [show Tryz.prog.cellsOf 28=1 by kernel_rfl] at e1;obtain ⟨b,hb,_⟩:=DataW.trod_bool Tryz.underlying4 e0;simp at hb;obtain ⟨a,n,cap,hv,hn,hd⟩:=qqm e1;exact ⟨b,a,n,cap,hb,hv,hn,hd⟩
def qud (W:World) (a:Option Addr) (n cap:Nat) (X:Nat->TE):Prop:=qun W a n cap X/\(∀ i,i<n->(X i).n<=9223372036854775807) /\ ∀ i,i<n->(X i).n<=1099511627776 -> ∃ d,qbv M0 W (.slice (X i).a (X i).n (X i).p) (X i).n d
end
theorem qgC (C:Nat) : ∀ (l:List Tm),(∀ t ∈ l,t.1.natAbs<=C)->nrm l<=l.length*C
 | [],_=>by simp [nrm]
 | t :: l,h=>by
  have h1:=qgC C l fun s hs=>h s (List.mem_cons_of_mem _ hs);have h2:=h t (List.mem_cons_self ..);simp only [nrm,List.length_cons,Nat.add_mul,Nat.one_mul];omega
theorem qud.poly {W : World} {a : Option Addr} {n cap : Nat} {X : Nat -> TE} {T D : Nat} {E : Int} (h : qud W a n cap X) (hf : qv5 n X T D E) (hT : T <= 1000) (hD : D <= 1000) :
  ∃ l,qbh M0 W (.slice a n cap) l/\l.length<=T/\dlen (nrm l)<=D+1 /\ ∀ s ∈ l,∀ k,s.2.get k<=max E 0 /\ -1000<=s.2.get k:=by
 obtain ⟨⟨h1,h2,h3⟩,_,h4⟩:=h
 have hn : ∀ i,i<n->(X i).n<=1099511627776:=fun i hi=>by have:=(hf.2 i hi).1;omega
 have hall : ∀ i,∃ z:Int,i<n->qbn M0 W (.bool (X i).b) (.slice (X i).a (X i).n (X i).p) z/\z.natAbs<=4294967296 ^ D:=by
  intro i
  by_cases hi:i<n
  ·obtain ⟨d,hd⟩:=h4 i hi (hn i hi);refine ⟨sgn (X i).b (nv d (X i).n),fun _=>⟨⟨(X i).b,nv d (X i).n,rfl,⟨_,d,hd,rfl⟩,rfl⟩,?_⟩⟩;rw [qaP];exact Nat.le_trans (Nat.le_of_lt (qc8 d _ hd.2.1)) (Nat.pow_le_pow_right (by omega) (hf.2 i hi).1)
  ·exact ⟨0,fun h=>absurd h hi⟩
 have hT2:=hf.1;refine ⟨xls n (fun i=>(hall i).choose) X,qcz.v ⟨by omega,?_,fun i hi=>((hall i).choose_spec hi).1⟩,by rw [qdK];exact hf.1,?_,?_⟩
 ·rcases h3 with rfl | ⟨b,off,rfl,hb,hc⟩
  ·exact .inl ⟨⟨a,cap,rfl,h2⟩,rfl⟩
  ·exact .inr ⟨b,off,cap,rfl,h1,h2,⟨hb,fun h=>h⟩,hc⟩
 ·have hb : nrm (xls n (fun i => (hall i).choose) X) <= (xls n (fun i => (hall i).choose) X).length * 4294967296 ^ D := by
   refine qgC _ _ fun t ht=>?_;unfold xls at ht;obtain ⟨i,hi,rfl⟩:=List.mem_map.1 ht;exact ((hall i).choose_spec (List.mem_range.1 hi)).2
  rw [qdK] at hb;rw [qao,Nat.pow_succ]
  have h5:n*4294967296 ^ D<4294967296 ^ D*4294967296:=by
   rw [Nat.mul_comm];exact Nat.mul_lt_mul_of_pos_left (by omega) (Nat.pow_pos (by omega))
  omega
 ·intro s hs k;unfold xls at hs;obtain ⟨i,hi,rfl⟩:=List.mem_map.1 hs;have h6:=(hf.2 i (List.mem_range.1 hi)).2;have g1 : -1000<=(X i).m.get 1/\(X i).m.get 1<=E:=h6 0 (by omega);have g2 : -1000<=(X i).m.get 2/\(X i).m.get 2<=E:=h6 1 (by omega);have g3 : -1000<=(X i).m.get 3/\(X i).m.get 3<=E:=h6 2 (by omega);have g4 : -1000<=(X i).m.get 4/\(X i).m.get 4<=E:=h6 3 (by omega);show (X i).m.get k<=max E 0 /\ -1000<=(X i).m.get k
  by_cases e1:k=1
  ·subst e1;omega
  by_cases e2:k=2
  ·subst e2;omega
  by_cases e3:k=3
  ·subst e3;omega
  by_cases e4:k=4
  ·subst e4;omega
  have h0:(X i).m.get k=0:=by unfold Mo.get;rw [if_neg e1,if_neg e2,if_neg e3,if_neg e4]
  rw [h0];omega
end Go.Proofs.YtmcfpnmoklnhoaaGreat
