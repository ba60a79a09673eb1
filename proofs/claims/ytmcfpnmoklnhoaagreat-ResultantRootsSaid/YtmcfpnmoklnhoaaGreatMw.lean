/- recpoly: Uni. sparse: Degree; cylinderlaw22: alone. RecpolyUni: the arguments; sizes. -/
import Derived.Test.YtmcfpnmoklnhoaaGreatMv
set_option linter.unusedVariables false
set_option maxRecDepth 100000
set_option maxHeartbeats 400000000
set_option linter.unusedSimpArgs false

namespace Go.Proofs.YtmcfpnmoklnhoaaGreat
open Go.RowKit



def qfE (p:Prop) (w:World) (e:Ending) (w':World):Prop:=∃ b:Bool,e = .returned (.bool b)/\(b=true↔p)/\Ext w w'
theorem qfE.t {p:Prop} {w w':World} (h:p) (he:Ext w w'):qfE p w (.returned (.bool true)) w':=⟨true,rfl,⟨fun _=>h,fun _=>rfl⟩,he⟩
theorem qfE.f {p:Prop} {w w':World} (h : ¬ p) (he:Ext w w'):qfE p w (.returned (.bool false)) w':=⟨false,rfl,⟨fun e=>(by cases e),fun e=>absurd e h⟩,he⟩
end Go.Proofs.YtmcfpnmoklnhoaaGreat

namespace Go.Proofs.YtmcfpnmoklnhoaaGreat
open Go.ChangeShapes Go.WideShapes Go.ChangeAt Go.RowKit Go.Deep

def qrr (W:World) (a:Option Addr) (n cap:Nat) (X:Nat->IE):Prop:=
 n<=cap/\cap<=maxLen/\(a=none->cap=0) /\ ∀ i,i<n -> ∃ b off,a=some ⟨b,off,none⟩/\b<W.heap.size/\W.cell? ⟨b,off+i*2,none⟩=some (.bool (X i).b)/\W.cell? ⟨b,off+i*2+1,none⟩=some (.slice (X i).a (X i).n (X i).p)/\qtP W (X i).a (X i).n (X i).p
section
variable {H:Type} {enc:TypeId × Value->H} {W:World}
theorem qn9 {base:Nat} {v:Value} {d:DataW H} {ps:List MemPlace} (hv:Value.okWide Tryz.prog W .any base 23 v) (h:DataW.Trod enc Tryz.prog W 0 (fun _=>true) true 23 v d ps) : ∃ a n cap X,v = .slice a n cap/\qrr W a n cap X:=by
 obtain ⟨fuel,h⟩:=h;have hu:Tryz.prog.underlying 23=some (.slice 30):=Tryz.underlying23
 have hc2:Tryz.prog.cellsOf 30=2:=by kernel_rfl
 have hv1:v.cells.toList = [v]:=by
  obtain ⟨a,n,c,rfl⟩:=okWide_slice hu hv;rfl
 rw [hv1] at h;rcases open_slice hu h with ⟨h0,_⟩ | ⟨a,len,cap,m,n,D,Pl,hcs,hb,hl,hm,hmm,_,hi⟩
 ·simp only [List.cons.injEq,and_true] at h0;exact ⟨none,0,0,fun _=>default,h0,Nat.le_refl _,Nat.zero_le _,fun _=>rfl,fun i hi=>absurd hi (Nat.not_lt_zero _)⟩
 ·simp only [List.cons.injEq,and_true] at hcs
  have hsp:a.spot=none/\a.block<W.heap.size:=by
   rw [hcs] at hv;simp only [Value.okWide,hu,Cell.okWide,Cell.ok] at hv;obtain ⟨_,_,_,hs,row,cells,hsh,_⟩:=hv;refine ⟨hs,?_⟩;unfold World.shape? at hsh
   split at hsh
   ·rename_i c e r hh;exact (Array.getElem?_eq_some_iff.1 hh).1
   ·cases hsh
  have hm2:len<=m:=by rw [hmm,if_pos rfl];exact hl
  rw [hc2] at hi;obtain ⟨b,off,sp⟩:=a;obtain ⟨rfl,hblk⟩:=hsp;simp only at hblk
  have hall : ∀ i,∃ x:IE,i<len->(W.cell? ⟨b,off+i*2,none⟩=some (.bool x.b)/\W.cell? ⟨b,off+i*2+1,none⟩=some (.slice x.a x.n x.p))/\qtP W x.a x.n x.p:=by
   intro i
   by_cases hil:i<len
   ·obtain ⟨cs',h1,h2⟩:=hi i (by omega);obtain ⟨_,hlen,hat⟩:=World.cells?_some h1
    match cs',hlen with
    | [u0,u1],_=>
     have c0:W.cell? (((⟨b,off,none⟩:Addr).add (i*2)).add 0)=some u0:=hat 0 (by omega);have c1:W.cell? (((⟨b,off,none⟩:Addr).add (i*2)).add 1)=some u1:=hat 1 (by omega);rw [qb4,qb4] at c0 c1;obtain ⟨bb,a',n',p',rfl,rfl,hn',hd'⟩:=qob (v0:=u0) (v1:=u1) h2;exact ⟨⟨bb,a',n',p'⟩,fun _=>⟨⟨c0,c1⟩,hn',hd'⟩⟩
   ·exact ⟨default,fun h=>absurd h hil⟩
  refine ⟨some ⟨b,off,none⟩,len,cap,fun i=>(hall i).choose,hcs,hl,hm,fun e=>(by cases e),fun i hi=>?_⟩;have:=(hall i).choose_spec hi;exact ⟨b,off,rfl,hblk,this.1.1,this.1.2,this.2⟩
end
theorem qrr.row {W:World} {a:Option Addr} {n cap:Nat} {X:Nat->IE} (h:qrr W a n cap X) (hn:n<=10) (hX : ∀ i,i<n->(X i).n<=6) : ∃ z,qb5 M0 W a n cap X z /\ ∀ i,i<n->(z i).natAbs<=4294967296 ^ 6:=by
 obtain ⟨h1,h2,h3,h4⟩:=h
 have hall : ∀ i,i<n -> ∃ z:Int,qbq M0 W (.bool (X i).b) (.slice (X i).a (X i).n (X i).p) z/\z.natAbs<=4294967296 ^ 6:=fun i hi=>by
  obtain ⟨b,off,_,_,_,_,h5⟩:=h4 i hi;obtain ⟨d,hd⟩:=h5.2 (by have:=hX i hi;omega);refine ⟨sgn (X i).b (nv d (X i).n),⟨(X i).b,nv d (X i).n,rfl,⟨_,d,hd,rfl⟩,rfl⟩,?_⟩;rw [qa4];exact Nat.le_trans (Nat.le_of_lt (qcH d _ hd.2.1)) (Nat.pow_le_pow_right (by omega) (hX i hi))
 obtain ⟨z,hz⟩:=qig 0 hall;refine ⟨z,⟨by omega,h1,h2,h3,fun i hi=>?_⟩,fun i hi=>(hz i hi).2⟩;obtain ⟨b,off,e,hb,c0,c1,_⟩:=h4 i hi;exact ⟨b,off,e,hb,fun h=>h,c0,c1,(hz i hi).1⟩
theorem qln {L n B:Nat} {z:Nat->Int} (h1:1<=L) (h4:L<=4) (hn:n<=B+1):Deg B (upl L n z):=by
 intro m hm k;obtain ⟨t,ht,rfl⟩:=qfx hm;obtain ⟨i,hi,s,hs,rfl⟩:=qck ht;simp only [List.mem_singleton] at hs;subst hs;rw [qas,qbc,qat L k _ h1 h4]
 split <;> omega
end Go.Proofs.YtmcfpnmoklnhoaaGreat
