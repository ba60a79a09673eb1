/- mainvar.Lead, Reductum. -/
import Derived.Test.YtmcfpnmoklnhoaaGreatDe
set_option linter.unusedVariables false
set_option maxRecDepth 100000
set_option maxHeartbeats 400000000
set_option linter.unusedSimpArgs false

namespace Go.Proofs.YtmcfpnmoklnhoaaGreat
open Go.RowKit

theorem qia {k B:Nat} (h1:1<=k) (h4:k<=4) {e:Int} {l:List Tm} (h:Deg B l):Deg B (ck k e l):=fun m hm j=>by
 rw [qaQ h1 h4] at hm
 split at hm
 ·rename_i h0;have:=h _ hm j;rw [qas,qat _ _ _ h1 h4] at this
  by_cases hj:j=k
  ·rw [hj,h0];omega
  ·rw [if_neg hj] at this;omega
 ·exact absurd rfl hm
theorem qew (k:Nat) (e:Int) (l:List Tm):nrm (ck k e l)<=nrm l:=by
 have:=qmm (f:=ckF k e) (K:=1) (l:=l) fun t _=>by
  unfold ckF;simp only;split <;> decide
 unfold ck;omega
theorem qoJ {k n B:Nat} {l:List Tm} (h:DgR k l n) (hB:Deg B l):n<=B:=by
 rcases h.2 with h0 | ⟨m,hm,hg⟩
 ·omega
 ·have:=hB m hm k;omega
theorem qax.take {M M':Nat->Prop} {w:World} {D g N n:Nat} {P:Nat->List Tm} (h:qax M w D g N P) (hm : ∀ g,M' g->M g∨w.heap.size<=g) (hg : ¬ M' g) (hn:n<=N) (hN:N<=1099511627776):qbA M' w D (.slice (some ⟨g,0,none⟩) n N) n P:=
 ⟨by omega,.inr ⟨g,0,N,rfl,hn,by unfold maxLen;omega,⟨h.lt,hg⟩,fun i hi=>h.kid hm i (by omega)⟩⟩
def qo2 (l:List Tm) (L:Int) (s:List Tm):Prop:=(Sim l []/\s = [])∨(¬ Sim l [] /\ ¬ (1<=L/\L<=4)/\s=l)∨(¬ Sim l [] /\ ∃ K n:Nat,L=K/\1<=K/\K<=4/\DgR K l n/\s=ck K (n:Int) l)
def qoY (M:Nat->Prop) (w:World) (R:List Tm->Prop) (e:Ending) (w':World):Prop:=∃ (v:PE) (s:List Tm),e = .returned (.agg (peA v))/\CRx M w' 4 v s/\R s/\Ext w w'
theorem qa8.ld {M:Nat->Prop} {w w':World} {s:List Tm} {e:Ending} {R:List Tm->Prop} (h:qa8 M w 4 s e w') (hR:R s):qoY M w R e w':=by
 obtain ⟨y,h1,h2,h3⟩:=h;exact ⟨y,s,h1,h2,hR,h3⟩
theorem qqw (M:Nat->Prop) (x:PE) (l:List Tm) (L:Int) (B:Nat) (w:World) (hM:Mb M w) (h:PI M w x l) (hB:Deg B l) (hB4:(B+1) ^ 4<=1099511627776) (hB2:B+1<=1073741824) (hR:dlen (nrm l)<=1099511627776):Calls Tryz.prog 117 #[.agg (peA x),.int .i64 L] w (qoY M w (qo2 l L)):=by
 obtain ⟨hE0,hX0,hB0,hM0⟩:=qro hM x;have CC:=Lib.hid (qeK _ x l L B _ hM0 ((h.more (M':=Mx M w.heap.size (w.heap.size+2)) (Mx.more (Nat.le_refl _))).ext hE0) hB hB4 hB2 hR);have HE:=Lib.hid hE0;have HB:=Lib.hid hB0;have HM:=Lib.hid hM;obtain ⟨x0,x1,x2,x3⟩:=hX0;have hnB:Hid (∀ K n:Nat,DgR K l n->n<=B):=fun K n hd=>qoJ hd hB;have HB2:=Lib.hid hB2;clear hE0 hB0 hM0 hM h hB hB4 hR hB2
 go_enter Tryz.func117,Tryz.ntmps117
 go_wp2_with (fail);refine CC.out.mono ?_;rintro e w1 ⟨hr,he1⟩;have HE1:=Lib.hid (HE.out.trans he1);have hB1:=HB.out.ext he1;clear he1 CC x0 x1 x2 x3 HB HE;rcases hr with ⟨hz,rfl⟩ | ⟨hz,hl,g,rfl,hg,hk⟩ | ⟨hz,K,n,g,rfl,hK1,hK4,rfl,hg,hd,hk⟩
 ·obtain ⟨⟨q0,q1,q2,q3⟩,⟨f0,f1,f2,f3⟩,⟨r0,r1,r2,r3⟩,HF⟩:=qbR (M:=M) (M':=Mx M w.heap.size (w.heap.size+2)) (w:=w) (L:=4) (l:=[]) (y:=PE.z) hB1 (Mx.at (by omega)) (by omega) HE1.out (CR.zero _ _ 4) Mx.sub;simp only [PE.z] at r0 r1 r2 r3;have HF2:=Lib.hid (HF.out.ld (R:=qo2 l L) (.inl ⟨hz,rfl⟩));clear HF hB1 hz;go_wp2;exact bodyPost_ret (v:=.agg (peA PE.z)) (by simp [results,Tryz.results117,go_sem,r0,r1,r2,r3,PE.z]) rfl HF2.out
 ·obtain ⟨y,⟨c0,c1,c2,c3⟩,hy⟩:=hk.cel 0 (by omega);have hgl:=hk.lt;rw [Nat.zero_mul] at c0 c1 c2 c3;simp only [Nat.zero_add] at c1 c2 c3;obtain ⟨⟨q0,q1,q2,q3⟩,⟨f0,f1,f2,f3⟩,⟨r0,r1,r2,r3⟩,HF⟩:=qbR (M:=M) (w:=w) (L:=4) (l:=l) (y:=y) hB1 (Mx.at (by omega)) (by omega) HE1.out (hy.more (M':=Mx M w.heap.size (w.heap.size+2)) fun b hb=>.inl (.inl hb)) Mx.sub;have HF2:=Lib.hid (HF.out.ld (R:=qo2 l L) (.inr (.inl ⟨hz,hl,rfl⟩)));clear HF hB1 hz hl hk hy
  have hw0:IntKind.i64.wrap 0=0:=by decide
  go_wp2;exact bodyPost_ret (v:=.agg (peA y)) (by simp [results,Tryz.results117,go_sem,r0,r1,r2,r3]) rfl HF2.out
 ·obtain ⟨y,⟨c0,c1,c2,c3⟩,hy⟩:=hk.cel n (by omega);have hgl:=hk.lt
  have hnI:(n:Int)+1<=1099511627776:=by have:=hnB.out K n hd;have:=HB2.out;omega
  have hn0:(0:Int)<=(n:Int):=Int.natCast_nonneg _
  have hne:((n:Int)+1 == 0)=false:=by simp;omega
  have hw:IntKind.i64.wrap ((n:Int)+1 - 1)=(n:Int):=by rw [IntKind.wrap_i64];omega
  obtain ⟨⟨q0,q1,q2,q3⟩,⟨f0,f1,f2,f3⟩,⟨r0,r1,r2,r3⟩,HF⟩:=qbR (M:=M) (w:=w) (L:=4) (l:=ck K (n:Int) l) (y:=y) hB1 (Mx.at (by omega)) (by omega) HE1.out (hy.more (M':=Mx M w.heap.size (w.heap.size+2)) fun b hb=>.inl (.inl hb)) Mx.sub;have HF2:=Lib.hid (HF.out.ld (R:=qo2 l K) (.inr (.inr ⟨hz,K,n,rfl,hK1,hK4,hd,rfl⟩)));clear HF hB1 hz hk hy hd hnB HB2;go_wp2;exact bodyPost_ret (v:=.agg (peA y)) (by simp [results,Tryz.results117,go_sem,r0,r1,r2,r3]) rfl HF2.out
end Go.Proofs.YtmcfpnmoklnhoaaGreat
