/- cylinderref20.Few; a polynomial in memory of which nothing is known but its cells. Arguments of the types natural.Nat, integer.Int and sparse.Poly, opened. -/
import Derived.Test.YtmcfpnmoklnhoaaGreatMm
import Derived.Test.YtmcfpnmoklnhoaaGreatMq
set_option linter.unusedVariables false
set_option linter.unusedSimpArgs false

namespace Go.Proofs.YtmcfpnmoklnhoaaGreat
open Go.RowKit

end Go.Proofs.YtmcfpnmoklnhoaaGreat

namespace Go.Proofs.YtmcfpnmoklnhoaaGreat
open Go.ChangeShapes Go.WideShapes Go.ChangeAt Go.RowKit Go.Deep

theorem qic (a:Addr):a.add 0=a:=by unfold Addr.add;simp
section
variable {H:Type} {enc:TypeId × Value->H} {W:World}
theorem qoa {fuel : Nat} {v : Value} {x : DataW H × List MemPlace} (h : DataW.trod enc Tryz.prog W 0 (fun _ => true) true fuel 28 [v] = some x) :
  ∃ a n cap,v = .slice a n cap/\n<=9223372036854775807/\(n<=1099511627776 -> ∃ d,qbr M0 W (.slice a n cap) n d):=by
 rcases open_ints Tryz.underlying28 Tryz.underlying155 (by kernel_rfl) h with ⟨h0,_⟩ | ⟨a,len,cap,zs,hcs,hb,hl,hm,hz,_,hc,hwf⟩
 ·simp only [List.cons.injEq,and_true] at h0;exact ⟨none,0,0,h0,by omega,fun _=>⟨fun _=>0,qbr.nil _ _⟩⟩
 ·simp only [List.cons.injEq,and_true] at hcs;refine ⟨some a,len,cap,hcs,by unfold maxLen at hm;omega,fun hL=>?_⟩;rw [if_pos rfl] at hz
  have hw : ∀ i,i<len->0<=zs.getD i 0/\zs.getD i 0<4294967296:=by
   intro i hi
   have hi':i<zs.length:=by omega
   have h1:=hwf (zs.getD i 0) (by rw [List.getD_eq_getElem?_getD,List.getElem?_eq_getElem hi'];simp);simp [Lit.wf,IntKind.min,IntKind.max,IntKind.signed,IntKind.bits] at h1
   have h2:zs.getD i 0=zs[i]?.getD 0:=by simp
   rw [h2];omega
  rcases Nat.eq_zero_or_pos len with h0 | h0
  ·subst h0;exact ⟨fun _=>0,hL,(by intro i hi;omega),.inl ⟨rfl,some a,cap,rfl,hm,fun h=>by cases h⟩⟩
  ·refine ⟨fun i=>(zs.getD i 0).toNat,hL,(fun i hi=>by have:=hw i hi;show (zs.getD i 0).toNat<4294967296;omega),.inr ?_⟩;have hc0:=hc 0 (by omega);rw [qic] at hc0;have hsp:=World.cell?_spot hc0;have hbl:=World.block_lt_of_cell? _ _ hc0;obtain ⟨b,o,s⟩:=a;simp only at hsp hbl;subst hsp;refine ⟨b,o,cap,rfl,hl,hm,⟨hbl,fun h=>h⟩,fun i hi=>?_⟩;have h3:=hc i (by omega);rw [qb4] at h3;rw [h3];have:=hw i hi;simp only [Option.some.injEq,Value.int.injEq,true_and];omega
theorem qob {fuel : Nat} {v0 v1 : Value} {x : DataW H × List MemPlace} (h : DataW.trod enc Tryz.prog W 0 (fun _ => true) true fuel 30 [v0, v1] = some x) :
  ∃ b a n cap,v0 = .bool b/\v1 = .slice a n cap/\n<=9223372036854775807/\(n<=1099511627776 -> ∃ d,qbr M0 W (.slice a n cap) n d):=by
 obtain ⟨y0,y1,q,_,_,e0,e1⟩:=trod_struct2 Tryz.underlying30 h;rw [show Tryz.prog.cellsOf 4=1 by kernel_rfl] at e0;rw [show Tryz.prog.cellsOf 28=1 by kernel_rfl] at e1;obtain ⟨b,hb,_⟩:=DataW.trod_bool Tryz.underlying4 e0;simp at hb;obtain ⟨a,n,cap,hv,hn,hd⟩:=qoa e1;exact ⟨b,a,n,cap,hb,hv,hn,hd⟩
end
end Go.Proofs.YtmcfpnmoklnhoaaGreat
