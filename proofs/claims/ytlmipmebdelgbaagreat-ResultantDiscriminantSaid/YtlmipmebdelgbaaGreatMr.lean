/- cylinderref20.Few; a polynomial in memory of which nothing is known but its cells. Arguments of the types natural.Nat, integer.Int and sparse.Poly, opened. -/
import Derived.Test.YtlmipmebdelgbaaGreatMm
import Derived.Test.YtlmipmebdelgbaaGreatMq
set_option linter.unusedVariables false
set_option linter.unusedSimpArgs false

namespace Go.Proofs.YtlmipmebdelgbaaGreat
open Go.RowKit

def qqH (w:World) (a:Option Addr) (n cap:Nat) (X:Nat->TE):Prop:=
 n<=cap/\cap<=maxLen/\(n=0 ∨ ∃ b off,a=some ⟨b,off,none⟩/\b<w.heap.size /\ ∀ i,i<n->w.cell? ⟨b,off+i*6,none⟩=some (.bool (X i).b)/\w.cell? ⟨b,off+i*6+1,none⟩=some (.slice (X i).a (X i).n (X i).p) /\
  w.cell? ⟨b,off+i*6+2,none⟩=some (.int .i64 (X i).m.a)/\w.cell? ⟨b,off+i*6+3,none⟩=some (.int .i64 (X i).m.b)/\w.cell? ⟨b,off+i*6+4,none⟩=some (.int .i64 (X i).m.c)/\w.cell? ⟨b,off+i*6+5,none⟩=some (.int .i64 (X i).m.d))
theorem qqH.ext {w w':World} {a:Option Addr} {n cap:Nat} {X:Nat->TE} (h:qqH w a n cap X) (he:Ext w w'):qqH w' a n cap X:=by
 obtain ⟨h1,h2,h3⟩:=h
 refine ⟨h1,h2,?_⟩
 rcases h3 with h3 | ⟨b,off,ha,hb,hc⟩
 ·exact .inl h3
 ·refine .inr ⟨b,off,ha,Nat.lt_of_lt_of_le hb he.size,fun i hi=>?_⟩
  rw [he.cell hb,he.cell hb,he.cell hb,he.cell hb,he.cell hb,he.cell hb]
  exact hc i hi
def okE (E:Int) (m:Mo) (k:Nat):Prop:=-1000<=m.get k/\m.get k<=E
def qpx (D:Nat) (E:Int) (x:TE):Prop:=x.n<=D /\ ∀ k,k<4->okE E x.m (k+1)
def qr5 (n:Nat) (X:Nat->TE) (T D:Nat) (E:Int):Prop:=n<=T /\ ∀ i,i<n->qpx D E (X i)
def qsJ (p:Prop) (w:World) (e:Ending) (w':World):Prop:=∃ b:Bool,e = .returned (.bool b)/\(b=true↔p)/\w=w'
set_option maxRecDepth 100000 in
set_option maxHeartbeats 4000000 in
theorem qpk (a : Option Addr) (n cap : Nat) (X : Nat -> TE) (T D : Nat) (E : Int) (w : World) (h : qqH w a n cap X) (hX : ∀ i, i < n -> (X i).n <= 9223372036854775807) :
  Calls Tryz.prog 40 #[.slice a n cap,.int .i64 (T:Int),.int .i64 (D:Int),.int .i64 E] w (qsJ (qr5 n X T D E) w):=by
 obtain ⟨h1,h2,h3⟩:=h
 unfold maxLen at h2
 have H3:=Lib.hid h3
 have HX:=Lib.hid hX
 clear h3 hX
 by_cases hT:n<=T
 ·go_enter Tryz.func40,Tryz.ntmps40
  go_wp2
  go_loop [9] (fun i=>∃ k:Nat,k<=n/\i = .int .i64 k/\Hid (∀ j,j<k->qpx D E (X j))) (fun i=>n - (intOf i).toNat)
  case atStart=>exact ⟨0,Nat.zero_le _,rfl,fun j hj=>absurd hj (Nat.not_lt_zero _)⟩
  case round=>
   obtain ⟨k,hk,rfl,HOK⟩:=hrel
   by_cases hlt:k<n
   ·rcases H3.out with h0 | ⟨b,off,rfl,hb,hcells⟩
    ·omega
    obtain ⟨x0,x1,x2,x3,x4,x5⟩:=hcells k hlt
    have hxn:=HX.out k hlt
    clear hcells
    by_cases hD:(X k).n<=D
    ·go_wp2
     go_loop [10] (fun i=>∃ q:Nat,q<=4/\i = .int .i64 q/\Hid (∀ j,j<q->okE E (X k).m (j+1))) (fun i=>4 - (intOf i).toNat)
     case atStart=>exact ⟨0,Nat.zero_le _,rfl,fun j hj=>absurd hj (Nat.not_lt_zero _)⟩
     case round=>
      obtain ⟨q,hq,rfl,HQ⟩:=hrel
      by_cases hq4:q<4
      ·have hc : ∃ e, (X k).m.get (q + 1) = e /\ w.cell? ⟨b, off + k * 6 + 2 + q, none⟩ = some (.int .i64 e) := by
        have:q=0∨q=1∨q=2∨q=3:=by omega
        rcases this with rfl | rfl | rfl | rfl
        ·exact ⟨_,rfl,x2⟩
        ·exact ⟨_,rfl,x3⟩
        ·exact ⟨_,rfl,x4⟩
        ·exact ⟨_,rfl,x5⟩
       obtain ⟨e,he,xe⟩:=hc
       have HE:=Lib.hid he
       clear he x2 x3 x4 x5
       by_cases h1:E<e
       ·go_wp2
        go_ret
        exact ⟨false,rfl,⟨(fun h=>by cases h),fun h=>by have:=((h.2 k hlt).2 q hq4).2;rw [HE.out] at this;omega⟩,rfl⟩
       by_cases h2:e < -1000
       ·go_wp2
        go_ret
        exact ⟨false,rfl,⟨(fun h=>by cases h),fun h=>by have:=((h.2 k hlt).2 q hq4).1;rw [HE.out] at this;omega⟩,rfl⟩
       have HN:Hid (∀ j,j<q+1->okE E (X k).m (j+1)):=fun j hj=>by
        by_cases hjk:j=q
        ·subst hjk;unfold okE;rw [HE.out];omega
        ·exact HQ.out j (by omega)
       go_wp2
       go_round
       case rel=>exact ⟨q+1,by omega,by go_num,HN⟩
       case measure=>simp [intOf];omega
      ·have HN : Hid (∀ j, j < k + 1 -> qpx D E (X j)) := fun j hj => by
        by_cases hjk:j=k
        ·subst hjk;exact ⟨hD,fun i hi=>HQ.out i (by omega)⟩
        ·exact HOK.out j (by omega)
       go_wp2
       go_round
       case rel=>exact ⟨k+1,by omega,by go_num,HN⟩
       case measure=>simp [intOf];omega
    ·go_wp2
     go_ret
     exact ⟨false,rfl,⟨(fun h=>by cases h),fun h=>absurd (h.2 k hlt).1 hD⟩,rfl⟩
   ·go_wp2
    go_ret
    exact ⟨true,rfl,⟨fun _=>⟨hT,fun i hi=>HOK.out i (by omega)⟩,fun _=>rfl⟩,rfl⟩
 ·go_enter Tryz.func40,Tryz.ntmps40
  go_wp2
  go_ret
  exact ⟨false,rfl,⟨(fun h=>by cases h),fun h=>absurd h.1 hT⟩,rfl⟩
end Go.Proofs.YtlmipmebdelgbaaGreat

namespace Go.Proofs.YtlmipmebdelgbaaGreat
open Go.ChangeShapes Go.WideShapes Go.ChangeAt Go.RowKit Go.Deep

theorem qmE (a:Addr):a.add 0=a:=by unfold Addr.add;simp
section
variable {H:Type} {enc:TypeId × Value->H} {W:World}
theorem qnj {fuel : Nat} {v : Value} {x : DataW H × List MemPlace} (h : DataW.trod enc Tryz.prog W 0 (fun _ => true) true fuel 28 [v] = some x) :
  ∃ a n cap,v = .slice a n cap/\n<=9223372036854775807/\(n<=1099511627776 -> ∃ d,qbo M0 W (.slice a n cap) n d):=by
 rcases open_ints Tryz.underlying28 Tryz.underlying79 (by kernel_rfl) h with ⟨h0,_⟩ | ⟨a,len,cap,zs,hcs,hb,hl,hm,hz,_,hc,hwf⟩
 ·simp only [List.cons.injEq,and_true] at h0
  exact ⟨none,0,0,h0,by omega,fun _=>⟨fun _=>0,qbo.nil _ _⟩⟩
 ·simp only [List.cons.injEq,and_true] at hcs
  refine ⟨some a,len,cap,hcs,by unfold maxLen at hm;omega,fun hL=>?_⟩
  rw [if_pos rfl] at hz
  have hw : ∀ i,i<len->0<=zs.getD i 0/\zs.getD i 0<4294967296:=by
   intro i hi
   have hi':i<zs.length:=by omega
   have h1:=hwf (zs.getD i 0) (by rw [List.getD_eq_getElem?_getD,List.getElem?_eq_getElem hi'];simp)
   simp [Lit.wf,IntKind.min,IntKind.max,IntKind.signed,IntKind.bits] at h1
   have h2:zs.getD i 0=zs[i]?.getD 0:=by simp
   rw [h2];omega
  rcases Nat.eq_zero_or_pos len with h0 | h0
  ·subst h0
   exact ⟨fun _=>0,hL,(by intro i hi;omega),.inl ⟨rfl,some a,cap,rfl,hm,fun h=>by cases h⟩⟩
  ·refine ⟨fun i=>(zs.getD i 0).toNat,hL,(fun i hi=>by have:=hw i hi;show (zs.getD i 0).toNat<4294967296;omega),.inr ?_⟩
   have hc0:=hc 0 (by omega)
   rw [qmE] at hc0
   have hsp:=World.cell?_spot hc0
   have hbl:=World.block_lt_of_cell? _ _ hc0
   obtain ⟨b,o,s⟩:=a
   simp only at hsp hbl
   subst hsp
   refine ⟨b,o,cap,rfl,hl,hm,⟨hbl,fun h=>h⟩,fun i hi=>?_⟩
   have h3:=hc i (by omega)
   rw [qb1] at h3
   rw [h3]
   have:=hw i hi
   simp only [Option.some.injEq,Value.int.injEq,true_and]
   omega
theorem qnl {fuel : Nat} {v0 v1 : Value} {x : DataW H × List MemPlace} (h : DataW.trod enc Tryz.prog W 0 (fun _ => true) true fuel 30 [v0, v1] = some x) :
  ∃ b a n cap,v0 = .bool b/\v1 = .slice a n cap/\n<=9223372036854775807/\(n<=1099511627776 -> ∃ d,qbo M0 W (.slice a n cap) n d):=by
 obtain ⟨y0,y1,q,_,_,e0,e1⟩:=trod_struct2 Tryz.underlying30 h
 rw [show Tryz.prog.cellsOf 4=1 by kernel_rfl] at e0
 rw [show Tryz.prog.cellsOf 28=1 by kernel_rfl] at e1
 obtain ⟨b,hb,_⟩:=DataW.trod_bool Tryz.underlying4 e0
 simp at hb
 obtain ⟨a,n,cap,hv,hn,hd⟩:=qnj e1
 exact ⟨b,a,n,cap,hb,hv,hn,hd⟩
theorem qlq {fuel : Nat} {v0 v1 v2 v3 : Value} {x : DataW H × List MemPlace} (h : DataW.trod enc Tryz.prog W 0 (fun _ => true) true fuel 93 [v0, v1, v2, v3] = some x) :
  ∃ m:Mo,v0 = .int .i64 m.a/\v1 = .int .i64 m.b/\v2 = .int .i64 m.c/\v3 = .int .i64 m.d:=by
 obtain ⟨xs,q,_,_,_,hxl,hx⟩:=DataW.trod_array Tryz.underlying93 h
 have hce:Tryz.prog.cellsOf 3=1:=by kernel_rfl
 rw [hce] at hx
 have key : ∀ i,i<4 -> ∃ y,DataW.trod enc Tryz.prog W 0 (fun _=>true) true q 3 (([v0,v1,v2,v3].drop (i*1)).take 1)=some y:=fun i hi=>by
  rw [hx i hi,List.getElem?_eq_getElem (by omega)];exact ⟨_,rfl⟩
 obtain ⟨y0,e0⟩:=key 0 (by omega)
 obtain ⟨y1,e1⟩:=key 1 (by omega)
 obtain ⟨y2,e2⟩:=key 2 (by omega)
 obtain ⟨y3,e3⟩:=key 3 (by omega)
 obtain ⟨a,ha,_,_⟩:=DataW.trod_int Tryz.underlying3 e0
 obtain ⟨b,hb,_,_⟩:=DataW.trod_int Tryz.underlying3 e1
 obtain ⟨c,hc,_,_⟩:=DataW.trod_int Tryz.underlying3 e2
 obtain ⟨d,hd,_,_⟩:=DataW.trod_int Tryz.underlying3 e3
 simp at ha hb hc hd
 exact ⟨⟨a,b,c,d⟩,ha,hb,hc,hd⟩
def qqA (W:World) (a:Option Addr) (n cap:Nat) (X:Nat->TE):Prop:=qqH W a n cap X/\(∀ i,i<n->(X i).n<=9223372036854775807) /\ ∀ i,i<n->(X i).n<=1099511627776 -> ∃ d,qbo M0 W (.slice (X i).a (X i).n (X i).p) (X i).n d
set_option maxRecDepth 10000 in
theorem qg7 {base:Nat} {v:Value} {d:DataW H} {ps:List MemPlace} (hv:Value.okWide Tryz.prog W .any base 23 v) (h:DataW.Trod enc Tryz.prog W 0 (fun _=>true) true 23 v d ps) : ∃ a n cap X,v = .slice a n cap/\qqA W a n cap X:=by
 obtain ⟨fuel,h⟩:=h
 have hu:Tryz.prog.underlying 23=some (.slice 95):=Tryz.underlying23
 have hc6:Tryz.prog.cellsOf 95=6:=by kernel_rfl
 have hv1:v.cells.toList = [v]:=by
  obtain ⟨a,n,c,rfl⟩:=okWide_slice hu hv
  rfl
 rw [hv1] at h
 rcases open_slice hu h with ⟨h0,_⟩ | ⟨a,len,cap,m,n,D,Pl,hcs,hb,hl,hm,hmm,_,hi⟩
 ·simp only [List.cons.injEq,and_true] at h0
  exact ⟨none,0,0,fun _=>default,h0,⟨Nat.le_refl _,Nat.zero_le _,.inl rfl⟩,(fun i hi=>by omega),fun i hi=>by omega⟩
 ·simp only [List.cons.injEq,and_true] at hcs
  have hsp:a.spot=none/\a.block<W.heap.size:=by
   rw [hcs] at hv
   simp only [Value.okWide,hu,Cell.okWide,Cell.ok] at hv
   obtain ⟨_,_,_,hs,row,cells,hsh,_⟩:=hv
   refine ⟨hs,?_⟩
   unfold World.shape? at hsh
   split at hsh
   ·rename_i c e r hh
    exact (Array.getElem?_eq_some_iff.1 hh).1
   ·cases hsh
  have hm2:len<=m:=by rw [hmm,if_pos rfl];exact hl
  rw [hc6] at hi
  obtain ⟨b,off,sp⟩:=a
  obtain ⟨rfl,hblk⟩:=hsp
  simp only at hblk
  have hall : ∀ i, ∃ x : TE, i < len -> (W.cell? ⟨b, off + i * 6, none⟩ = some (.bool x.b) /\ W.cell? ⟨b, off + i * 6 + 1, none⟩ = some (.slice x.a x.n x.p) /\
    W.cell? ⟨b,off+i*6+2,none⟩=some (.int .i64 x.m.a)/\W.cell? ⟨b,off+i*6+3,none⟩=some (.int .i64 x.m.b)/\W.cell? ⟨b,off+i*6+4,none⟩=some (.int .i64 x.m.c)/\W.cell? ⟨b,off+i*6+5,none⟩=some (.int .i64 x.m.d)) /\
    x.n<=9223372036854775807/\(x.n<=1099511627776 -> ∃ d,qbo M0 W (.slice x.a x.n x.p) x.n d):=by
   intro i
   by_cases hil:i<len
   ·obtain ⟨cs',h1,h2⟩:=hi i (by omega)
    obtain ⟨_,hlen,hat⟩:=World.cells?_some h1
    match cs',hlen with
    | [u0,u1,u2,u3,u4,u5],_=>
     have c0:W.cell? (((⟨b,off,none⟩:Addr).add (i*6)).add 0)=some u0:=hat 0 (by omega)
     have c1:W.cell? (((⟨b,off,none⟩:Addr).add (i*6)).add 1)=some u1:=hat 1 (by omega)
     have c2:W.cell? (((⟨b,off,none⟩:Addr).add (i*6)).add 2)=some u2:=hat 2 (by omega)
     have c3:W.cell? (((⟨b,off,none⟩:Addr).add (i*6)).add 3)=some u3:=hat 3 (by omega)
     have c4:W.cell? (((⟨b,off,none⟩:Addr).add (i*6)).add 4)=some u4:=hat 4 (by omega)
     have c5:W.cell? (((⟨b,off,none⟩:Addr).add (i*6)).add 5)=some u5:=hat 5 (by omega)
     rw [qb1,qb1] at c0 c1 c2 c3 c4 c5
     obtain ⟨y0,y1,q,_,_,e0,e1⟩:=trod_struct2 Tryz.underlying95 h2
     rw [show Tryz.prog.cellsOf 30=2 by kernel_rfl] at e0
     rw [show Tryz.prog.cellsOf 93=4 by kernel_rfl] at e1
     obtain ⟨bb,a',n',p',rfl,rfl,hn',hd'⟩:=qnl (v0:=u0) (v1:=u1) e0
     obtain ⟨mm,rfl,rfl,rfl,rfl⟩:=qlq (v0:=u2) (v1:=u3) (v2:=u4) (v3:=u5) e1
     exact ⟨⟨bb,a',n',p',mm⟩,fun _=>⟨⟨c0,c1,c2,c3,c4,c5⟩,hn',hd'⟩⟩
   ·exact ⟨default,fun h=>absurd h hil⟩
  refine ⟨some ⟨b,off,none⟩,len,cap,fun i=>(hall i).choose,hcs,⟨hl,hm,.inr ⟨b,off,rfl,hblk,fun i hi=>((hall i).choose_spec hi).1⟩⟩,fun i hi=>((hall i).choose_spec hi).2.1,fun i hi=>((hall i).choose_spec hi).2.2⟩
end
theorem qg8 (C:Nat) : ∀ (l:List Tm),(∀ t ∈ l,t.1.natAbs<=C)->nrm l<=l.length*C
 | [],_=>by simp [nrm]
 | t :: l,h=>by
  have h1:=qg8 C l fun s hs=>h s (List.mem_cons_of_mem _ hs)
  have h2:=h t (List.mem_cons_self ..)
  simp only [nrm,List.length_cons,Nat.add_mul,Nat.one_mul]
  omega
theorem qqA.poly {W : World} {a : Option Addr} {n cap : Nat} {X : Nat -> TE} {T D : Nat} {E : Int} (h : qqA W a n cap X) (hf : qr5 n X T D E) (hT : T <= 1000) (hD : D <= 1000) :
  ∃ l,qbW M0 W (.slice a n cap) l/\l.length<=T/\dlen (nrm l)<=D+1 /\ ∀ s ∈ l,∀ k,s.2.get k<=max E 0 /\ -1000<=s.2.get k:=by
 obtain ⟨⟨h1,h2,h3⟩,_,h4⟩:=h
 have hn : ∀ i,i<n->(X i).n<=1099511627776:=fun i hi=>by have:=(hf.2 i hi).1;omega
 have hall : ∀ i,∃ z:Int,i<n->qbt M0 W (.bool (X i).b) (.slice (X i).a (X i).n (X i).p) z/\z.natAbs<=4294967296 ^ D:=by
  intro i
  by_cases hi:i<n
  ·obtain ⟨d,hd⟩:=h4 i hi (hn i hi)
   refine ⟨sgn (X i).b (nv d (X i).n),fun _=>⟨⟨(X i).b,nv d (X i).n,rfl,⟨_,d,hd,rfl⟩,rfl⟩,?_⟩⟩
   rw [qa4]
   exact Nat.le_trans (Nat.le_of_lt (qcH d _ hd.2.1)) (Nat.pow_le_pow_right (by omega) (hf.2 i hi).1)
  ·exact ⟨0,fun h=>absurd h hi⟩
 have hT2:=hf.1
 refine ⟨xls n (fun i=>(hall i).choose) X,qb2.v ⟨by omega,?_,fun i hi=>((hall i).choose_spec hi).1⟩,by rw [qdo];exact hf.1,?_,?_⟩
 ·rcases h3 with rfl | ⟨b,off,rfl,hb,hc⟩
  ·exact .inl ⟨⟨a,cap,rfl,h2⟩,rfl⟩
  ·exact .inr ⟨b,off,cap,rfl,h1,h2,⟨hb,fun h=>h⟩,hc⟩
 ·have hb : nrm (xls n (fun i => (hall i).choose) X) <= (xls n (fun i => (hall i).choose) X).length * 4294967296 ^ D := by
   refine qg8 _ _ fun t ht=>?_
   unfold xls at ht
   obtain ⟨i,hi,rfl⟩:=List.mem_map.1 ht
   exact ((hall i).choose_spec (List.mem_range.1 hi)).2
  rw [qdo] at hb
  rw [qaj,Nat.pow_succ]
  have h5:n*4294967296 ^ D<4294967296 ^ D*4294967296:=by
   rw [Nat.mul_comm]
   exact Nat.mul_lt_mul_of_pos_left (by omega) (Nat.pow_pos (by omega))
  omega
 ·intro s hs k
  unfold xls at hs
  obtain ⟨i,hi,rfl⟩:=List.mem_map.1 hs
  have h6:=(hf.2 i (List.mem_range.1 hi)).2
  have g1 : -1000<=(X i).m.get 1/\(X i).m.get 1<=E:=h6 0 (by omega)
  have g2 : -1000<=(X i).m.get 2/\(X i).m.get 2<=E:=h6 1 (by omega)
  have g3 : -1000<=(X i).m.get 3/\(X i).m.get 3<=E:=h6 2 (by omega)
  have g4 : -1000<=(X i).m.get 4/\(X i).m.get 4<=E:=h6 3 (by omega)
  show (X i).m.get k<=max E 0 /\ -1000<=(X i).m.get k
  by_cases e1:k=1
  ·subst e1;omega
  by_cases e2:k=2
  ·subst e2;omega
  by_cases e3:k=3
  ·subst e3;omega
  by_cases e4:k=4
  ·subst e4;omega
  have h0:(X i).m.get k=0:=by unfold Mo.get;rw [if_neg e1,if_neg e2,if_neg e3,if_neg e4]
  rw [h0];omega
end Go.Proofs.YtlmipmebdelgbaaGreat
