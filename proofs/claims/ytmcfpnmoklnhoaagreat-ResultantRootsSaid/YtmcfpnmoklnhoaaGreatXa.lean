/- unipoly.Mul. unipoly.convolve, Mul: the walk. unipoly.Eval. -/
import Derived.Test.YtmcfpnmoklnhoaaGreatWa
import Derived.Test.YtmcfpnmoklnhoaaGreatDa
set_option linter.unusedVariables false
set_option maxRecDepth 100000
set_option maxHeartbeats 400000000
set_option linter.unusedSimpArgs false

namespace Go.Proofs.YtmcfpnmoklnhoaaGreat
open Go.RowKit

structure CvS (M:Nat->Prop) (w:World) (go gs b0 N:Nat) (a1:Option Addr) (n1 c1:Nat) (X1:Nat->IE) (z1:Nat->Int) (a2:Option Addr) (n2 c2:Nat) (X2:Nat->IE) (z2 O:Nat->Int) (x:IE) (S:Int) (W:World):Prop where
 o:UK (M3 M go gs) W go N N O
 s:Blk W gs 30 2 (arr #[.bool x.b,.slice x.a x.n x.p])
 x:IX (M3 M go gs) W x S
 b:JC W b0 0 ⟨false,none,0,0⟩
 f:qb5 (M3 M go gs) W a1 n1 c1 X1 z1
 g:qb5 (M3 M go gs) W a2 n2 c2 X2 z2
 m:Mb (M3 M go gs) W
 e:Ext w W
 d:w.heap.size<=go/\w.heap.size<=gs/\go≠gs/\b0≠go/\b0≠gs
theorem qbK {W:World} {g:Nat} {t:TypeId} {x:IE} (h:Blk W g t 2 (arr #[.bool x.b,.slice x.a x.n x.p])):JC W g 0 x:=⟨h.cell (i:=0) (by omega),h.cell (i:=1) (by omega)⟩
theorem qha {W:World} {g:Nat} {t:TypeId} {f:Nat->Value} (h:Blk W g t 2 f) (x:IE):Blk (set2 W g 0 (.bool x.b) (.slice x.a x.n x.p)) g t 2 (arr #[.bool x.b,.slice x.a x.n x.p]):=by
 refine ((h.set 0 (.bool x.b)).set 1 (.slice x.a x.n x.p)).congr fun i hi=>?_;unfold upd arr;rcases (show i=0∨i=1 by omega) with rfl | rfl <;> simp
section
variable {M:Nat->Prop} {w:World} {go gs b0 N:Nat} {a1:Option Addr} {n1 c1:Nat} {X1:Nat->IE} {z1:Nat->Int} {a2:Option Addr} {n2 c2:Nat} {X2:Nat->IE} {z2 O O':Nat->Int} {x:IE} {S S':Int} {W W':World}
theorem CvS.ext (h:CvS M w go gs b0 N a1 n1 c1 X1 z1 a2 n2 c2 X2 z2 O x S W) (he:Ext W W'):CvS M w go gs b0 N a1 n1 c1 X1 z1 a2 n2 c2 X2 z2 O x S W':=
 ⟨h.o.ext he,h.s.ext he,h.x.ext he,h.b.ext h.b.lt he,h.f.ext he,h.g.ext he,h.m.ext he,h.e.trans he,h.d⟩
theorem CvS.sum (h:CvS M w go gs b0 N a1 n1 c1 X1 z1 a2 n2 c2 X2 z2 O x S W) {y:IE} (hy:IX (M3 M go gs) W y S'):CvS M w go gs b0 N a1 n1 c1 X1 z1 a2 n2 c2 X2 z2 O y S' (set2 W gs 0 (.bool y.b) (.slice y.a y.n y.p)):=by
 have hk:Kp (M3 M go gs) W (set2 W gs 0 (.bool y.b) (.slice y.a y.n y.p)):=Kp.set2 (.inr rfl) _ _ _;have hh:=fun b hb=>qdU W gs 0 (.bool y.b) (.slice y.a y.n y.p) b hb;obtain ⟨d1,d2,d3,d4,d5⟩:=h.d;exact ⟨h.o.kp (hh _ d3) hk,qha h.s y,hy.kp hk,h.b.of_heap (hh _ d5),h.f.kp hk,h.g.kp hk,h.m.size (by rw [qdH];exact Nat.le_refl _),h.e.set2 d2 _ _ _,h.d⟩
end
theorem qrH {A D:Nat} {f g:Nat->Int} (hf : ∀ i,dlen (f i).natAbs<=A) (hg : ∀ i,dlen (g i).natAbs<=D) (k:Nat) : ∀ V,dlen (zC f g V k).natAbs<=A+D+V
 | 0=>Nat.le_trans (by decide:dlen (0:Int).natAbs<=0) (Nat.zero_le _)
 | V+1=>by
  have h:=qrH hf hg k V
  have h1:dlen (if V<=k then f V*g (k - V) else 0).natAbs<=A+D:=by
   split
   ·rw [Int.natAbs_mul];have:=qaD (f V).natAbs (g (k - V)).natAbs;have:=hf V;have:=hg (k - V);omega
   ·exact Nat.le_trans (by decide:dlen (0:Int).natAbs<=0) (Nat.zero_le _)
  have h2:=qft (zC f g V k) (if V<=k then f V*g (k - V) else 0);show dlen (zC f g V k+_).natAbs<=_;omega
theorem qi4 {f g:Nat->Int} {m k:Nat} (hg : ∀ i,m<=i->g i=0) : ∀ V,V+m<=k+1->zC f g V k=0
 | 0,_=>rfl
 | V+1,h=>by
  show zC f g V k+(if V<=k then f V*g (k - V) else 0)=0;rw [qi4 hg V (by omega),if_pos (by omega),hg _ (by omega),Int.mul_zero,Int.add_zero]
theorem qlh {f z:Nat->Int} {n k lo:Nat} (h:lo=k+1 - n):zC f (zx0 n z) lo k=0:=by
 by_cases hk:n<=k+1
 ·exact qi4 (m:=n) (fun i hi=>if_neg (by omega)) lo (by omega)
 ·rw [show lo=0 by omega];rfl
theorem qrG {f g:Nat->Int} {k:Nat} {V:Nat} (h:k<V) : ∀ r,zC f g (V+r) k=zC f g V k
 | 0=>rfl
 | r+1=>by
  show zC f g (V+r) k+(if V+r<=k then f (V+r)*g (k - (V+r)) else 0)=_;rw [qrG h r,if_neg (by omega),Int.add_zero]
theorem qo5 {f g:Nat->Int} {k V n:Nat} (h1:V<=n) (h2:V=n∨k<V):zC f g n k=zC f g V k:=by
 rcases h2 with rfl | h2
 ·rfl
 ·obtain ⟨r,rfl⟩ : ∃ r,n=V+r:=⟨n - V,by omega⟩;exact qrG h2 r
theorem qte {f g:Nat->Int} {k:Nat} (n:Nat):zC f g (tz f n) k=zC f g n k:=by
 have hle:=qdj f n;obtain ⟨r,hr⟩ : ∃ r,n=tz f n+r:=⟨n - tz f n,by omega⟩
 have : ∀ r,tz f n+r<=n->zC f g (tz f n+r) k=zC f g (tz f n) k:=fun r=>by
  induction r with
  | zero=>intro _;rfl
  | succ r ih=>
   intro h;show zC f g (tz f n+r) k+(if tz f n+r<=k then f (tz f n+r)*g (k - (tz f n+r)) else 0)=_;rw [ih (by omega),qgd f n _ (by omega) (by omega),Int.zero_mul]
   split <;> simp
 have h2:=this r (by omega);rw [<- hr] at h2;exact h2.symm
def cvN (m1 m2:Nat):Nat:=if m1=0∨m2=0 then 0 else m1+m2 - 1
theorem qtA {m1 m2:Nat} {f z2:Nat->Int} (i:Nat):zx0 (cvN m1 m2) (zC f (zx0 m2 z2) m1) i=zC f (zx0 m2 z2) m1 i:=by
 unfold cvN
 by_cases h:m1=0∨m2=0
 ·rw [if_pos h];refine (if_neg (by omega)).trans ?_;rcases h with rfl | rfl
  ·rfl
  ·by_cases hk:m1<=i+1
   ·exact (qi4 (m:=0) (fun j _=>if_neg (by omega)) m1 (by omega)).symm
   ·rw [qo5 (V:=i+1) (by omega) (.inr (by omega))];exact (qi4 (m:=0) (fun j _=>if_neg (by omega)) (i+1) (by omega)).symm
 ·rw [if_neg h]
  by_cases hi:i<m1+m2 - 1
  ·exact if_pos hi
  ·refine (if_neg hi).trans (qlg (n:=m2 - 1) (fun j hj=>if_neg (by omega)) m1 i (by omega)).symm


theorem qik (M : Nat -> Prop) (a1 : Option Addr) (n1 c1 : Nat) (X1 : Nat -> IE) (z1 : Nat -> Int) (a2 : Option Addr) (n2 c2 : Nat) (X2 : Nat -> IE) (z2 : Nat -> Int) (A D : Nat) (w : World) (hM : Mb M w)
  (h1:qb5 M w a1 n1 c1 X1 z1) (h2:qb5 M w a2 n2 c2 X2 z2) (hn1:n1<=1000000) (hn2:n2<=1000000) (hA : ∀ i,i<n1->dlen (z1 i).natAbs<=A) (hD : ∀ i,i<n2->dlen (z2 i).natAbs<=D) (hN:A+D<=549000000000) :
  Calls Tryz.prog 130 #[.slice a1 n1 c1,.slice a2 n2 c2,.agg #[.bool false,.slice none 0 0],.func (.func 124) #[] #[],.func (.func 65) #[] #[]] w (qsW M w (cvN n1 n2) (zC z1 (zx0 n2 z2) n1)):=by
 obtain ⟨i0,hi,hz0,hz1,hz2⟩:=info_parts Tryz.info30;have H1:=Lib.hid h1;have H2:=Lib.hid h2;have HM:=Lib.hid hM;have hR0:=qlc hA;have hG0:=qlc hD;have HZ1:Hid (∀ i,zx0 n1 z1 i=if i<n1 then z1 i else 0):=fun _=>rfl;clear h1 h2 hM hA hD;obtain ⟨b0,hb0⟩ : ∃ b0,b0=w.heap.size:=⟨_,rfl⟩;have hEa:=(Ext.refl w).alloc (.cells #[.bool false,.slice none 0 0] 30);have hBa:=Blk.of_arr w #[.bool false,.slice none 0 0] 30 2 rfl;rw [<- hb0] at hBa;obtain ⟨W1,hW1⟩ : ∃ W1,w.alloc (.cells #[.bool false,.slice none 0 0] 30)=W1:=⟨_,rfl⟩;rw [hW1] at hEa hBa;have HW1:=Lib.hid hW1;have HB0:=Lib.hid hb0;have HE1:=Lib.hid hEa;have HJ1:Hid (JC W1 b0 0 ⟨false,none,0,0⟩):=⟨hBa.cell (i:=0) (by omega),hBa.cell (i:=1) (by omega)⟩;clear hW1 hEa hBa hb0
 go_enter Tryz.func130,Tryz.ntmps130
 go_upto_region 1 with (fail)
 rw [HW1.out,<- HB0.out];clear HW1
 by_cases hn0:n1=0∨n2=0
 ·have HF : Hid (qsW M w (cvN n1 n2) (zC z1 (zx0 n2 z2) n1) (.returned (.slice none 0 0)) W1) := by
   have e:cvN n1 n2=0:=if_pos hn0;rw [e];exact ⟨none,fun _=>⟨false,none,0,0⟩,rfl,qb5.nil _ _ _ _,HE1.out⟩
  by_cases hn1:n1=0
  ·have hn1I:((n1:Int) == 0)=true:=by simp;omega
   clear hn0 hn1;go_wp2;go_ret;exact HF.out
  ·have hn1I:((n1:Int) == 0)=false:=by simp;omega
   have hn2I:((n2:Int) == 0)=true:=by simp;omega
   clear hn0 hn1;go_wp2;go_ret;exact HF.out
 have hn1p:1<=n1:=by omega
 have hn2p:1<=n2:=by omega
 have hn1I:((n1:Int) == 0)=false:=by simp;omega
 have hn2I:((n2:Int) == 0)=false:=by simp;omega
 obtain ⟨N,hNN⟩ : ∃ N,N=cvN n1 n2:=⟨_,rfl⟩
 have hNe:N+1=n1+n2:=by rw [hNN];unfold cvN;rw [if_neg hn0];omega
 have hNI:(n1:Int)+(n2:Int) - 1=(N:Int):=by omega
 have HNN:=Lib.hid hNN;clear hNN hn0
 go_wp2_with (first | (at_make;refine qbS _ rfl _ _ _ rfl 30 i0 (.agg #[.bool false,.slice none 0 0]) 2 Tryz.underlying23 hi hz0 hz1 .i64 .i64 _ _ N rfl rfl ?c4 ?c5 ?c2 ?c3 ?_))
 case c2=>rw [hz2];omega
 case c3=>unfold maxLen;omega
 case c4=>go_num
 case c5=>go_num
 have hBk:=qnp W1 N 30;have he1:=(Ext.refl W1).alloc (.cells (madeCells (Value.agg #[.bool false,.slice none 0 0]).cells (N*2)) 30);intro w2 hw2;replace hw2:W1.alloc (.cells (madeCells (Value.agg #[.bool false,.slice none 0 0]).cells (N*2)) 30)=w2:=hw2.out.symm;rw [hw2] at hBk he1;obtain ⟨go,hgo⟩ : ∃ go,go=W1.heap.size:=⟨_,rfl⟩;rw [<- hgo] at hBk ⊢
 have hb0o:b0<go:=by have:=HJ1.out.lt;omega
 have hwo:w.heap.size<=go:=by have:=HE1.out.size;omega
 have hm : ∀ b,(M b∨b=go)->M b∨w.heap.size<=b:=fun b hb=>hb.imp id fun e=>by rw [e];exact hwo
 have HE2:=Lib.hid (HE1.out.trans he1);have HO:Hid (UK (fun b=>M b∨b=go) w2 go N N fun i=>if i<0 then zC z1 (zx0 n2 z2) n1 i else 0):=(UK.zero hBk fun _ _=>rfl).congr fun i _=>(if_neg (by omega)).symm;have HJ2:=Lib.hid (HJ1.out.ext HJ1.out.lt he1);have HF:=Lib.hid ((H1.out.more hm).ext HE2.out);have HG:=Lib.hid ((H2.out.more hm).ext HE2.out);have HM2:Hid (Mb (fun b=>M b∨b=go) w2):=qb9 (HM.out.ext HE2.out) hBk.lt;have HWO:=Lib.hid hwo
 have hDL:Hid (∀ k V,dlen (zC z1 (zx0 n2 z2) V k).natAbs<=A+D+V∨n1<V):=fun k V=>by
  by_cases h:n1<V
  ·exact .inr h
  ·refine .inl ?_;rw [show zC z1 (zx0 n2 z2) V k=zC (zx0 n1 z1) (zx0 n2 z2) V k from qi5 V fun j hj=>(if_pos (by omega)).symm];exact qrH hR0 hG0 k V
 have HG0:=Lib.hid hG0;have HR0:=Lib.hid hR0;clear hw2 hBk he1 hm HE1 HJ1 hgo HB0 hi hz0 hz1 hz2 hG0 hR0 hwo H1 H2;go_wp2
 go_loopw [32] (fun iv wr=>∃ k:Nat,k<=N/\iv = .int .i64 (k:Int)/\Hid (UK (fun b=>M b∨b=go) wr go N N fun i=>if i<k then zC z1 (zx0 n2 z2) n1 i else 0)/\Hid (JC wr b0 0 ⟨false,none,0,0⟩)/\Hid (qb5 (fun b=>M b∨b=go) wr a1 n1 c1 X1 z1)/\Hid (qb5 (fun b=>M b∨b=go) wr a2 n2 c2 X2 z2)/\Hid (Mb (fun b=>M b∨b=go) wr)/\Hid (Ext w wr)) (fun iv _=>N - (intOf iv).toNat)
 case atStart=>exact ⟨0,Nat.zero_le _,rfl,HO,HJ2,HF,HG,HM2,HE2⟩
 case round=>
  clear HO HJ2 HF HG HM2 HE2;obtain ⟨k,hk,rfl,HO,HJ,HF,HG,HMB,HE⟩:=hrel
  by_cases hlt:k<N
  ·have hkI:(k:Int)<(N:Int):=by omega
   have hk0:(0:Int)<=(k:Int):=Int.natCast_nonneg _;have HKN:Hid (k<N):=hlt;obtain ⟨j0,j1⟩:=HJ.out;obtain ⟨gs,hgs⟩ : ∃ gs,gs=wr.heap.size:=⟨_,rfl⟩;have hEa:=(Ext.refl wr).alloc (.cells #[.bool false,.slice none 0 0] 30);have hBa:=Blk.of_arr wr #[.bool false,.slice none 0 0] 30 2 rfl;rw [<- hgs] at hBa;obtain ⟨W3,hW3⟩ : ∃ W3,wr.alloc (.cells #[.bool false,.slice none 0 0] 30)=W3:=⟨_,rfl⟩;rw [hW3] at hEa hBa
   have hm3 : ∀ b,M3 M go gs b->(M b∨b=go)∨wr.heap.size<=b:=fun b hb=>hb.imp id fun e=>by rw [e];omega
   have hgol:=HO.out.lt;have hb0l:=HJ.out.lt;obtain ⟨lo,hlo⟩ : ∃ lo,lo=k+1 - n2:=⟨_,rfl⟩
   have hlk:lo<=k:=by omega
   have hloI:max 0 ((k:Int) - (n2:Int)+1)=(lo:Int):=by omega
   have HS:Hid (CvS M w go gs b0 N a1 n1 c1 X1 z1 a2 n2 c2 X2 z2 (fun i=>if i<k then zC z1 (zx0 n2 z2) n1 i else 0) ⟨false,none,0,0⟩ (zC z1 (zx0 n2 z2) lo k) W3):=by
    refine ⟨(HO.out.more hm3).ext hEa,hBa,?_,HJ.out.ext HJ.out.lt hEa,(HF.out.more hm3).ext hEa,(HG.out.more hm3).ext hEa,qb9 (HMB.out.ext hEa) hBa.lt,HE.out.trans hEa,HWO.out,by have:=HE.out.size;omega,by omega,by omega,by omega⟩;rw [qlh hlo];exact (qbw.zero _ _).toV
   obtain ⟨hh,hhh⟩ : ∃ hh,hh=min k (n1 - 1):=⟨_,rfl⟩
   have hhI:min (k:Int) ((n1:Int) - 1)=(hh:Int):=by omega
   have hh1:hh<=k/\hh<n1/\(hh+1=n1∨hh=k):=by omega
   have hlh:lo<=hh+1:=by omega
   have hloN:k<lo+n2:=by omega
   have HW3:=Lib.hid hW3;have HGS:=Lib.hid hgs;clear hW3 hEa hBa hm3 hgs HO HJ HF HG HMB HE hlo hhh hlt
   go_upto_region 8 with (fail)
   rw [HW3.out,<- HGS.out];clear j0 j1 HW3 HGS hgol hb0l;go_wp2
   go_loopw [14] (fun iv wr=>∃ (i:Nat) (x:IE),lo<=i/\i<=hh+1/\iv = .int .i64 (i:Int)/\Hid (CvS M w go gs b0 N a1 n1 c1 X1 z1 a2 n2 c2 X2 z2 (fun i=>if i<k then zC z1 (zx0 n2 z2) n1 i else 0) x (zC z1 (zx0 n2 z2) i k) wr)) (fun iv _=>hh+1 - (intOf iv).toNat)
   case atStart=>exact ⟨lo,⟨false,none,0,0⟩,Nat.le_refl _,hlh,rfl,HS⟩
   case round=>
    clear HS;obtain ⟨i,x,hli,hih,rfl,HS⟩:=hrel
    by_cases hlt:i<=hh
    ·have hiI:(i:Int)<=(hh:Int):=by omega
     have hi0:(0:Int)<=(i:Int):=Int.natCast_nonneg _
     have hin:(i:Int)<(n1:Int):=by omega
     have hiB:(i:Int)+1<=1000001:=by omega
     have hiw:IntKind.i64.wrap (i:Int)=(i:Int):=IntWalk.i64_in _ (by omega);obtain ⟨d,hd⟩ : ∃ d,d=k - i:=⟨_,rfl⟩
     have hdI:(k:Int) - (i:Int)=(d:Int):=by omega
     have hd0:(0:Int)<=(d:Int):=Int.natCast_nonneg _
     have hdn:(d:Int)<(n2:Int):=by omega
     have hdw:IntKind.i64.wrap (d:Int)=(d:Int):=IntWalk.i64_in _ (by omega);have HDK:=Lib.hid hd;have HIH:Hid (lo<=i+1/\i+1<=hh+1/\i<=k/\i<n1):=⟨by omega,by omega,by omega,by omega⟩
     have hdn2:d<n2:=by omega
     obtain ⟨g1,o1,ha1,hc1,hg1l,hx1⟩:=HS.out.f.cel (i:=i) (by omega);obtain ⟨g2,o2,ha2,hc2,hg2l,hx2⟩:=HS.out.g.cel (i:=d) hdn2;subst ha1;subst ha2;have hEd:=(Ext.refl wr).drew;have hS:S25 g1 (o1+i*2) (X1 i) gs x g2 (o2+d*2) (X2 d) wr.drew:=S25.ext ⟨hc1,qbK HS.out.s,hc2,hg1l,HS.out.s.lt,hg2l⟩ hEd;have HSD:=Lib.hid (HS.out.ext hEd);have HX1:=Lib.hid (hx1.ext hEd);have HX2:=Lib.hid (hx2.ext hEd);have h1wd:g1<wr.drew.heap.size:=hS.2.2.2.1;have hswd:gs<wr.drew.heap.size:=hS.2.2.2.2.1;have h2wd:g2<wr.drew.heap.size:=hS.2.2.2.2.2;clear hEd hx1 hx2 hc1 hc2 hg1l hg2l HS hd hlt
     go_upto_region 11 with (fail)
     refine qad (S25 g1 (o1+i*2) (X1 i) gs x g2 (o2+d*2) (X2 d)) 15 (by kernel_rfl) hS (fun hHeld=>?_);clear hS;generalize wr.drew=wd2 at *
     have hz1:Hid (dlen (z1 i).natAbs<=A):=by
      have:=HR0.out i;rw [HZ1.out,if_pos HIH.out.2.2.2] at this;exact this
     have hz2:Hid (zx0 n2 z2 d=z2 d):=by show _=_;unfold zx0;rw [if_pos hdn2]
     have C13:Hid (∀ W:World,Ext wd2 W->Calls Tryz.prog 65 #[.agg #[.bool (X1 i).b,.slice (X1 i).a (X1 i).n (X1 i).p],.agg #[.bool (X2 d).b,.slice (X2 d).a (X2 d).n (X2 d).p]] W (qcE (M3 M go gs) W (z1 i*z2 d))):=fun W he=>
      qqx (X1 i) (X2 d) _ _ W (HSD.out.m.ext he) (HX1.out.ext he) (HX2.out.ext he) (by
       have e1:=hz1.out;have e2:=HG0.out d;rw [hz2.out] at e2
       omega)
     have C14:Hid (∀ (W:World) (u:IE),Ext wd2 W->IX (M3 M go gs) W u (z1 i*z2 d)->Calls Tryz.prog 124 #[.agg #[.bool x.b,.slice x.a x.n x.p],.agg #[.bool u.b,.slice u.a u.n u.p]] W (qcE (M3 M go gs) W (zC z1 (zx0 n2 z2) i k+z1 i*z2 d))):=fun W u he hu=>
      qtK x u _ _ W (HSD.out.m.ext he) (HSD.out.x.ext he) hu (by
       have e1:=hz1.out;have e2:=HG0.out d;rw [hz2.out] at e2;have e3:=(hDL.out k i).resolve_right (by have:=HIH.out;omega);have e4:=qaD (z1 i).natAbs (z2 d).natAbs;have e5:=HIH.out;rw [Int.natAbs_mul]
       omega)
     (refine tkB [0,1,2,3,4,5,6,7,8,9,10,11,12] ?_;(iterate 13 (refine tk1 (oi:=?_) (v:=?_) (by kernel_rfl) (by first | exact hSn | exact hHeld) ?_ ?_ ?_ ?_ ?_;rotate_left 2;(simp only [xgA,xgB,xgC];rfl);rfl;(intro wS hSw;obtain ⟨⟨S1,S2⟩,⟨S3,S4⟩,⟨S5,S6⟩,S7,S8,S9⟩:=hSw;go_simp;try with_reducible rfl);(exact fun _ _ _ h=>h);(try simp only [Act.put,xgD,xgE,xgF])));refine tkE ?_);((refine qaa 13 (o:=?_) (by kernel_rfl) ?_ ?_;rotate_left 1;(simp only [xgA,xgB,xgC];rfl);intro K hK);go_simp;(refine (C13.out _ (Ext.refl _)).mono ?_);rintro e_ u2 ⟨u,rfl,hu,ed1⟩;go_wp2_with (fail);(try clear hSn);(have hSn:=hHeld.ext ed1);(refine hK.out _ _ (fun _=>hSn) ?_);clear hK K;(try simp only [Act.put,xgD,xgE,xgF]));((refine qaa 14 (o:=?_) (by kernel_rfl) ?_ ?_;rotate_left 1;(simp only [xgA,xgB,xgC];rfl);intro K hK);go_simp;(refine (C14.out _ u ed1 hu).mono ?_);rintro e_ u3 ⟨v2,rfl,hv2,ed2⟩;go_wp2_with (fail);(try clear hSn);(have hSn:=hHeld.ext (ed1.trans ed2));(refine hK.out _ _ (fun _=>hSn) ?_);clear hK K;(try simp only [Act.put,xgD,xgE,xgF]));have ed3:=ed1.trans ed2;have hS5:=(HSD.out.ext ed3)
     have HS6:Hid (CvS M w go gs b0 N (some ⟨g1,o1,none⟩) n1 c1 X1 z1 (some ⟨g2,o2,none⟩) n2 c2 X2 z2 (fun i=>if i<k then zC z1 (zx0 n2 z2) n1 i else 0) v2 (zC z1 (zx0 n2 z2) (i+1) k) (set2 u3 gs 0 (.bool v2.b) (.slice v2.a v2.n v2.p))):=by
      have h9:=hS5.sum hv2
      rw [show zC z1 (zx0 n2 z2) (i+1) k=zC z1 (zx0 n2 z2) i k+z1 i*z2 d by
       show zC z1 (zx0 n2 z2) i k+(if i<=k then z1 i*zx0 n2 z2 (k - i) else 0)=_
       rw [if_pos HIH.out.2.2.1,<- HDK.out,hz2.out]]
      exact h9
     obtain ⟨W6,hW6⟩ : ∃ W6,set2 u3 gs 0 (.bool v2.b) (.slice v2.a v2.n v2.p)=W6:=⟨_,rfl⟩;obtain ⟨k0,k1⟩:=qbK hS5.s;have hf0:=hS5.s.frozen 0;have hf1:=hS5.s.frozen 1;have hg5:=hS5.s.lt;rw [hW6] at HS6;unfold set2 at hW6;have HW6:=Lib.hid hW6;clear hS5 hu hv2 ed1 ed2 ed3 hW6 HSD HX1 HX2 C13 C14 hHeld hSn hz1 hz2;((refine qaa 15 (o:=?_) (by kernel_rfl) ?_ ?_;rotate_left 1;(simp only [xgA,xgB,xgC];rfl);intro K hK);go_simp;(refine hK.out _ _ (fun h=>absurd rfl h) ?_);clear hK K;refine qac (by kernel_rfl) ?_ _)
     go_upto_region 10 with (fail)
     rw [HW6.out];clear k0 k1 hf0 hf1 hg5 HW6 h1wd hswd h2wd HDK;go_wp2
     go_roundw
     case rel=>exact ⟨i+1,v2,HIH.out.1,HIH.out.2.1,by go_num,HS6⟩
     case measure=>have:=HIH.out;simp [intOf];omega
    ·obtain rfl:i=hh+1:=by omega
     have hge : ¬ ((hh+1:Nat):Int)<=(hh:Int):=by omega
     have hfin:Hid (zC z1 (zx0 n2 z2) (hh+1) k=zC z1 (zx0 n2 z2) n1 k):=(qo5 (by omega) (by omega)).symm;have HS5:=HS;obtain ⟨k0,k1⟩:=qbK HS.out.s;have hgsl:=HS.out.s.lt;obtain ⟨yy,⟨l0,l1⟩,_⟩:=HS.out.o.cel (j:=k) HKN.out (Nat.le_refl _);have hf0:=HS.out.o.frz (k*2);have hf1:=HS.out.o.frz (k*2+1);have hgol:=HS.out.o.lt;have hkp:=Kp.set2 (M:=M3 M go gs) (w:=wr) (g:=go) (.inl (.inr rfl)) (k*2) (.bool x.b) (.slice x.a x.n x.p);obtain ⟨d1,d2,d3,d4,d5⟩:=HS.out.d;have hlm : ∀ b,(M b∨b=go)->M3 M go gs b∨(set2 wr go (k*2) (.bool x.b) (.slice x.a x.n x.p)).heap.size<=b:=fun b hb=>.inl (.inl hb)
     have HO:Hid (UK (fun b=>M b∨b=go) (set2 wr go (k*2) (.bool x.b) (.slice x.a x.n x.p)) go N N fun i=>if i<k+1 then zC z1 (zx0 n2 z2) n1 i else 0):=by
      refine ((HS.out.o.put (.inl (.inr rfl)) HKN.out HS.out.x).congr fun i hi=>?_).more hlm
      by_cases e:i=k
      ·rw [if_pos e,if_pos (by omega),e];exact hfin.out
      ·rw [if_neg e]
       by_cases h2:i<k
       ·rw [if_pos h2,if_pos (by omega)]
       ·rw [if_neg h2,if_neg (by omega)]
     have HJ:Hid (JC (set2 wr go (k*2) (.bool x.b) (.slice x.a x.n x.p)) b0 0 ⟨false,none,0,0⟩):=HS.out.b.of_heap (qdU _ _ _ _ _ _ d4);have HF:=Lib.hid ((HS.out.f.kp hkp).more hlm);have HG:=Lib.hid ((HS.out.g.kp hkp).more hlm)
     have HMB:Hid (Mb (fun b=>M b∨b=go) (set2 wr go (k*2) (.bool x.b) (.slice x.a x.n x.p))):=fun b hb=>by rw [qdH];exact HS.out.m b (.inl hb)
     have HE:=Lib.hid (HS.out.e.set2 d1 (k*2) (.bool x.b) (.slice x.a x.n x.p));obtain ⟨W5,hW5⟩ : ∃ W5,set2 wr go (k*2) (.bool x.b) (.slice x.a x.n x.p)=W5:=⟨_,rfl⟩;rw [hW5] at HO HJ HF HG HMB HE;unfold set2 at hW5;have HW5:=Lib.hid hW5;clear hW5 hkp hlm HS d1 d2 d3 d4 d5 HS5 hfin
     go_upto_region 13 with (fail)
     rw [HW5.out];clear k0 k1 hf0 hf1 hgsl hgol l0 l1 HW5;go_wp2
     go_roundw
     case rel=>exact ⟨k+1,HKN.out,by go_num,HO,HJ,HF,HG,HMB,HE⟩
     case measure=>have:=HKN.out;simp [intOf];omega
  ·obtain rfl:k=N:=by omega
   obtain ⟨X,hX⟩:=(HO.out.congr (z':=zC z1 (zx0 n2 z2) n1) fun i hi=>if_pos hi).row (M':=M) (fun g h=>.inl (.inl h)) (HM.out.new HWO.out) (by omega)
   have HR:Hid (qsW M w (cvN n1 n2) (zC z1 (zx0 n2 z2) n1) (.returned (.slice (some ⟨go,0,none⟩) k k)) wr):=by rw [<- HNN.out];exact ⟨_,X,rfl,hX,HE.out⟩
   clear HO HJ HF HG HMB HE hX;go_wp2;go_ret;exact HR.out
theorem qrM (M : Nat -> Prop) (a1 : Option Addr) (n1 c1 : Nat) (X1 : Nat -> IE) (z1 : Nat -> Int) (a2 : Option Addr) (n2 c2 : Nat) (X2 : Nat -> IE) (z2 : Nat -> Int) (A D : Nat) (w : World) (hM : Mb M w)
  (h1:qb5 M w a1 n1 c1 X1 z1) (h2:qb5 M w a2 n2 c2 X2 z2) (hn1:n1<=1000000) (hn2:n2<=1000000) (hA : ∀ i,i<n1->dlen (z1 i).natAbs<=A) (hD : ∀ i,i<n2->dlen (z2 i).natAbs<=D) (hN:A+D<=549000000000) :
  Calls Tryz.prog 76 #[.slice a1 n1 c1,.slice a2 n2 c2] w (qsW M w (cvN (tz z1 n1) (tz z2 n2)) (zC z1 (zx0 (tz z2 n2) z2) (tz z1 n1))):=by
 have hle1:=qdj z1 n1;have hle2:=qdj z2 n2;have CT1:=Lib.hid (qgc M a1 n1 c1 X1 z1 w h1);have CT2:=Lib.hid (fun W (he:Ext w W)=>qgc M a2 n2 c2 X2 z2 W (h2.ext he));have CC:=Lib.hid (fun W (he:Ext w W)=>qik M a1 (tz z1 n1) c1 X1 z1 a2 (tz z2 n2) c2 X2 z2 A D W (hM.ext he) ((h1.ext he).cut hle1) ((h2.ext he).cut hle2) (by omega) (by omega) (fun i hi=>hA i (by omega)) (fun i hi=>hD i (by omega)) hN);clear h1 h2 hM hA hD;generalize tz z1 n1=m1 at *;generalize tz z2 n2=m2 at *
 go_enter Tryz.func76,Tryz.ntmps76
 go_wp2_with (fail);refine CT1.out.mono ?_;rintro e w1 ⟨rfl,he1⟩;go_wp2_with (fail);refine (CT2.out _ he1).mono ?_;rintro e w2 ⟨rfl,he2⟩;have HE2:=Lib.hid (he1.trans he2);clear he1 he2;go_wp2_with (fail);refine (CC.out _ HE2.out).mono ?_;rintro e w3 ⟨a,X,rfl,hX,he3⟩;have HF:Hid (qsW M w (cvN m1 m2) (zC z1 (zx0 m2 z2) m1) (.returned (.slice a (cvN m1 m2) (cvN m1 m2))) w3):=⟨a,X,rfl,hX,HE2.out.trans he3⟩;clear hX he3;generalize cvN m1 m2=N at *;go_wp2;go_ret;exact HF.out


structure Ac (M':Nat->Prop) (w:World) (gr gv:Nat) (x:IE) (S:Int) (W:World):Prop where
 v:Blk W gv 30 2 (arr #[.bool x.b,.slice x.a x.n x.p])
 r:Blk W gr 30 2 (arr #[.bool false,.slice none 0 0])
 x:IX M' W x S
 m:Mb M' W
 e:Ext w W
 d:w.heap.size<=gv/\w.heap.size<=gr/\gv≠gr/\M' gv/\M' gr
section
variable {M':Nat->Prop} {w:World} {gr gv:Nat} {x:IE} {S S':Int} {W W':World}
theorem Ac.ext (h:Ac M' w gr gv x S W) (he:Ext W W'):Ac M' w gr gv x S W':=⟨h.v.ext he,h.r.ext he,h.x.ext he,h.m.ext he,h.e.trans he,h.d⟩
theorem Ac.sum (h:Ac M' w gr gv x S W) {y:IE} (hy:IX M' W y S'):Ac M' w gr gv y S' (set2 W gv 0 (.bool y.b) (.slice y.a y.n y.p)):=by
 obtain ⟨d1,d2,d3,d4,d5⟩:=h.d;have hk:Kp M' W (set2 W gv 0 (.bool y.b) (.slice y.a y.n y.p)):=Kp.set2 d4 _ _ _;exact ⟨qha h.v y,h.r.of_heap (qdU W gv 0 _ _ _ (Ne.symm d3)),hy.kp hk,h.m.size (by rw [qdH];exact Nat.le_refl _),h.e.set2 d1 _ _ _,h.d⟩
theorem Ac.put (h:Ac M' w gr gv x S W):(W.cell? ⟨gv,0,none⟩=some (.bool x.b)/\W.cell? ⟨gv,1,none⟩=some (.slice x.a x.n x.p))/\W.frozen? ⟨gv,0,none⟩=false/\W.frozen? ⟨gv,1,none⟩=false/\gv<W.heap.size:=
 ⟨qbK h.v,h.v.frozen 0,h.v.frozen 1,h.v.lt⟩
theorem Ac.ret {M : Nat -> Prop} (h : Ac M' w gr gv x S W) (hm : ∀ g, M g -> M' g) :
  (W.cell? ⟨gr,0,none⟩=some (.bool false)/\W.cell? ⟨gr,1,none⟩=some (.slice none 0 0)/\W.frozen? ⟨gr,0,none⟩=false/\W.frozen? ⟨gr,1,none⟩=false) /\
  (((W.setCell ⟨gr,0,none⟩ (.bool x.b)).setCell ⟨gr,1,none⟩ (.slice x.a x.n x.p)).cell? ⟨gr,0,none⟩=some (.bool x.b)/\((W.setCell ⟨gr,0,none⟩ (.bool x.b)).setCell ⟨gr,1,none⟩ (.slice x.a x.n x.p)).cell? ⟨gr,1,none⟩=some (.slice x.a x.n x.p)) /\
  qcE M w S (.returned (.agg #[.bool x.b,.slice x.a x.n x.p])) ((W.setCell ⟨gr,0,none⟩ (.bool x.b)).setCell ⟨gr,1,none⟩ (.slice x.a x.n x.p)):=by
 obtain ⟨d1,d2,d3,d4,d5⟩:=h.d;obtain ⟨h1,h2,hk,hf⟩:=qgL (M':=M') (w:=w) (.bool x.b) (.slice x.a x.n x.p) h.r d5 d2 h.e;exact ⟨h1,h2,x,rfl,(h.x.kp hk).more fun g hg=>.inl (hm g hg),hf⟩
end
def hvz (z:Nat->Int) (x:Int) (n:Nat):Nat->Int
 | 0=>0
 | t+1=>hvz z x n t*x+z (n - 1 - t)
theorem qmx (z:Nat->Int) (x:Int) (n:Nat) : ∀ t,t<=n->hvz z x n t*x ^ (n - t)+psI x z (n - t)=psI x z n
 | 0,_=>by show (0:Int)*_+psI x z n=_;simp
 | t+1,h=>by
  rw [<- qmx z x n t (by omega),show n - t=(n - (t+1))+1 by omega];show (hvz z x n t*x+z (n - 1 - t))*x ^ (n - (t+1))+psI x z (n - (t+1))=hvz z x n t*x ^ (n - (t+1)+1)+(psI x z (n - (t+1))+z (n - (t+1))*x ^ (n - (t+1)));rw [Int.pow_succ,show n - 1 - t=n - (t+1) by omega,Int.add_mul];generalize x ^ (n - (t+1))=p;generalize hvz z x n t=h
  grind
theorem qmy (z:Nat->Int) (x:Int) (n:Nat):hvz z x n n=psI x z n:=by
 have:=qmx z x n n (Nat.le_refl _);rw [Nat.sub_self,Int.pow_zero,Int.mul_one] at this;rw [<- this];show _=_+(0:Int);omega
theorem qmz {A D n:Nat} {z:Nat->Int} {x:Int} (hx:dlen x.natAbs<=D) (hz : ∀ i,i<n->dlen (z i).natAbs<=A) : ∀ t,t<=n->dlen (hvz z x n t).natAbs<=A+t*(D+1)
 | 0,_=>Nat.le_trans (by decide:dlen (0:Int).natAbs<=0) (Nat.zero_le _)
 | t+1,h=>by
  have h1:=qmz hx hz t (by omega);have h2:=hz (n - 1 - t) (by omega);have h3:=qft (hvz z x n t*x) (z (n - 1 - t))
  have h4:dlen (hvz z x n t*x).natAbs<=A+t*(D+1)+D:=by
   rw [Int.natAbs_mul];have:=qaD (hvz z x n t).natAbs x.natAbs;omega
  rw [Nat.succ_mul];show dlen (hvz z x n t*x+z (n - 1 - t)).natAbs<=_;omega
theorem qpU (M : Nat -> Prop) (a : Option Addr) (n cap : Nat) (X : Nat -> IE) (z : Nat -> Int) (y : IE) (x : Int) (A D : Nat) (w : World) (hM : Mb M w) (h : qb5 M w a n cap X z) (hy : IX M w y x) (hn : n <= 1000000) (hA : ∀ i, i < n -> dlen (z i).natAbs <= A) (hD : dlen x.natAbs <= D) (hN : A + n * (D + 1) + D <= 549000000000) :
  Calls Tryz.prog 79 #[.slice a n cap,.agg #[.bool y.b,.slice y.a y.n y.p]] w (qcE M w (psI x z n)):=by
 have hE0:Ext w (((w.alloc (.cells #[.bool y.b,.slice y.a y.n y.p] 30)).alloc (.cells zI 30)).alloc (.cells #[.bool false,.slice none 0 0] 30)):=(((Ext.refl w).alloc _).alloc _).alloc _;have hB0:=((Blk.of_arr w #[.bool y.b,.slice y.a y.n y.p] 30 2 rfl).alloc (.cells zI 30)).alloc (.cells #[.bool false,.slice none 0 0] 30);have hB1:=(Blk.of_arr (w.alloc (.cells #[.bool y.b,.slice y.a y.n y.p] 30)) zI 30 2 rfl).alloc (.cells #[.bool false,.slice none 0 0] 30);have hB2:=Blk.of_arr ((w.alloc (.cells #[.bool y.b,.slice y.a y.n y.p] 30)).alloc (.cells zI 30)) #[.bool false,.slice none 0 0] 30 2 rfl;simp only [World.size_alloc] at hB1 hB2;generalize hW:((w.alloc (.cells #[.bool y.b,.slice y.a y.n y.p] 30)).alloc (.cells zI 30)).alloc (.cells #[.bool false,.slice none 0 0] 30)=W at *;have HW:=Lib.hid hW;have hmore : ∀ g,Mx M w.heap.size (w.heap.size+3) g->M g∨w.heap.size<=g:=Mx.more (Nat.le_refl _)
 have HA:Hid (Ac (Mx M w.heap.size (w.heap.size+3)) w (w.heap.size+1) (w.heap.size+2) ⟨false,none,0,0⟩ (hvz z x n 0) W):=
  ⟨hB2,hB1,(qbw.zero _ _).toV,Mx.mb hM hE0.size (by have:=hB2.lt;omega),hE0,by omega,by omega,by omega,Mx.at (by omega),Mx.at (by omega)⟩
 have HU:=Lib.hid ((h.more hmore).ext hE0);have HY:=Lib.hid ((hy.more hmore).ext hE0);have HJ:Hid (JC W w.heap.size 0 y):=qbK hB0;have HAD:=Lib.hid (fun t (ht:t<=n)=>qmz hD hA t ht);have HAZ:=Lib.hid hA;have HDX:=Lib.hid hD;have hn0:=h.1;have hnc:=h.2.1;have hcm:=h.2.2.1;unfold maxLen at hcm;clear hW hE0 hB0 hB1 hB2 hmore h hy hA hD hM
 go_enter Tryz.func79,Tryz.ntmps79
 go_upto_region 2 with (fail)
 rw [HW.out];clear HW;go_wp2
 go_loopw [6] (fun iv wr=>∃ (t k:Nat) (xv:IE),t+k=n/\iv = .int .i64 ((k:Int) - 1)/\Hid (Ac (Mx M w.heap.size (w.heap.size+3)) w (w.heap.size+1) (w.heap.size+2) xv (hvz z x n t) wr)/\Hid (JC wr w.heap.size 0 y)/\Hid (IX (Mx M w.heap.size (w.heap.size+3)) wr y x)/\Hid (qb5 (Mx M w.heap.size (w.heap.size+3)) wr a n cap X z)) (fun iv _=>(intOf iv+1).toNat)
 case atStart=>exact ⟨0,n,_,Nat.zero_add _,rfl,HA,HJ,HY,HU⟩
 case round=>
  clear HA HJ HY HU;obtain ⟨t,k1,xv,htk,rfl,HA,HJ,HY,HU⟩:=hrel
  by_cases hk0:k1=0
  ·subst hk0
   obtain rfl:t=n:=by omega
   have hge : ¬ ((0:Int)<=((0:Nat):Int) - 1):=by omega
   obtain ⟨⟨s0,s1,g0,g1⟩,⟨r0,r1⟩,hR⟩:=HA.out.ret (M:=M) (fun g hg=>.inl hg);obtain ⟨v0,v1⟩:=qbK HA.out.v;have hvl:=HA.out.v.lt;have hrl:=HA.out.r.lt;rw [qmy] at hR;have HR:=Lib.hid hR;clear hR HA HJ HY HU;go_wp2;exact bodyPost_ret (v:=.agg #[.bool xv.b,.slice xv.a xv.n xv.p]) (by simp [results,Tryz.results79,go_sem,r0,r1]) rfl HR.out
  ·obtain ⟨k,rfl⟩ : ∃ k,k1=k+1:=⟨k1 - 1,by omega⟩;have hkI:(0:Int)<=(k:Int):=Int.natCast_nonneg _
   have hkn:(k:Int)<(n:Int):=by omega
   have hkB:(k:Int)+1<=1000001:=by omega
   have hkw:IntKind.i64.wrap (k:Int)=(k:Int):=IntWalk.i64_in _ (by omega);have HTK:Hid (t+(k+1)=n):=htk;obtain ⟨gb,ob,ha,hc,hbl,hx⟩:=HU.out.cel (i:=k) (by omega);subst ha;have hEd:=(Ext.refl wr).drew;have hS:S25 w.heap.size 0 y (w.heap.size+2) xv gb (ob+k*2) (X k) wr.drew:=S25.ext ⟨HJ.out,qbK HA.out.v,hc,HJ.out.lt,HA.out.v.lt,hbl⟩ hEd;have HAD2:=Lib.hid (HA.out.ext hEd);have HJD:=Lib.hid (HJ.out.ext HJ.out.lt hEd);have HYD:=Lib.hid (HY.out.ext hEd);have HUD:=Lib.hid (HU.out.ext hEd);have HXD:=Lib.hid (hx.ext hEd);have h1wd:w.heap.size<wr.drew.heap.size:=hS.2.2.2.1;have hswd:w.heap.size+2<wr.drew.heap.size:=hS.2.2.2.2.1;have h2wd:gb<wr.drew.heap.size:=hS.2.2.2.2.2;clear hEd hx hc hbl HA HJ HY HU hk0 htk;rw [show ((k+1:Nat):Int)=(k:Int)+1 by omega,show (k:Int)+1 - 1=(k:Int) by omega]
   go_upto_region 5 with (fail)
   refine qad (S25 w.heap.size 0 y (w.heap.size+2) xv gb (ob+k*2) (X k)) 8 (by kernel_rfl) hS (fun hHeld=>?_);clear hS;generalize wr.drew=wd2 at *
   have C2:Hid (∀ W:World,Ext wd2 W->Calls Tryz.prog 65 #[.agg #[.bool xv.b,.slice xv.a xv.n xv.p],.agg #[.bool y.b,.slice y.a y.n y.p]] W (qcE (Mx M w.heap.size (w.heap.size+3)) W (hvz z x n t*x))):=fun W he=>
    qqx xv y _ _ W (HAD2.out.m.ext he) (HAD2.out.x.ext he) (HYD.out.ext he) (by
     have e1:=HAD.out t (by have:=HTK.out;omega);have e2:=HDX.out;have e3:=Nat.mul_le_mul_right (D+1) (show t<=n by have:=HTK.out;omega)
     omega)
   have C7:Hid (∀ (W:World) (u:IE),Ext wd2 W->IX (Mx M w.heap.size (w.heap.size+3)) W u (hvz z x n t*x)->Calls Tryz.prog 124 #[.agg #[.bool u.b,.slice u.a u.n u.p],.agg #[.bool (X k).b,.slice (X k).a (X k).n (X k).p]] W (qcE (Mx M w.heap.size (w.heap.size+3)) W (hvz z x n t*x+z k))):=fun W u he hu=>
    qtK u (X k) _ _ W (HAD2.out.m.ext he) hu (HXD.out.ext he) (by
     have e1:=HAD.out t (by have:=HTK.out;omega);have e2:=HDX.out;have e3:=Nat.mul_le_mul_right (D+1) (show t<=n by have:=HTK.out;omega);have e4:=HAZ.out k (by have:=HTK.out;omega);have e5:=qaD (hvz z x n t).natAbs x.natAbs;rw [Int.natAbs_mul]
     omega)
   (refine tkB [0,1,3,4,5,6] ?_;(iterate 6 (refine tk1 (oi:=?_) (v:=?_) (by kernel_rfl) (by first | exact hSn | exact hHeld) ?_ ?_ ?_ ?_ ?_;rotate_left 2;(simp only [xgA,xgB,xgC];rfl);rfl;(intro wS hSw;obtain ⟨⟨S1,S2⟩,⟨S3,S4⟩,⟨S5,S6⟩,S7,S8,S9⟩:=hSw;go_simp;try with_reducible rfl);(exact fun _ _ _ h=>h);(try simp only [Act.put,xgD,xgE,xgF])));refine tkE ?_);((refine qaa 2 (o:=?_) (by kernel_rfl) ?_ ?_;rotate_left 1;(simp only [xgA,xgB,xgC];rfl);intro K hK);go_simp;(refine (C2.out _ (Ext.refl _)).mono ?_);rintro e_ u2 ⟨u,rfl,hu,ed1⟩;go_wp2_with (fail);(try clear hSn);(have hSn:=hHeld.ext ed1);(refine hK.out _ _ (fun _=>hSn) ?_);clear hK K;(try simp only [Act.put,xgD,xgE,xgF]));((refine qaa 7 (o:=?_) (by kernel_rfl) ?_ ?_;rotate_left 1;(simp only [xgA,xgB,xgC];rfl);intro K hK);go_simp;(refine (C7.out _ u ed1 hu).mono ?_);rintro e_ u3 ⟨v2,rfl,hv2,ed2⟩;go_wp2_with (fail);(try clear hSn);(have hSn:=hHeld.ext (ed1.trans ed2));(refine hK.out _ _ (fun _=>hSn) ?_);clear hK K;(try simp only [Act.put,xgD,xgE,xgF]));have ed3:=ed1.trans ed2;have hA5:=HAD2.out.ext ed3;have hkp:=Kp.set2 (M:=Mx M w.heap.size (w.heap.size+3)) (w:=u3) (g:=w.heap.size+2) (Mx.at (by omega)) 0 (.bool v2.b) (.slice v2.a v2.n v2.p)
   have HA6:Hid (Ac (Mx M w.heap.size (w.heap.size+3)) w (w.heap.size+1) (w.heap.size+2) v2 (hvz z x n (t+1)) (set2 u3 (w.heap.size+2) 0 (.bool v2.b) (.slice v2.a v2.n v2.p))):=by
    have h9:=hA5.sum hv2
    rw [show hvz z x n (t+1)=hvz z x n t*x+z k by
     show hvz z x n t*x+z (n - 1 - t)=_
     rw [show n - 1 - t=k by have:=HTK.out;omega]]
    exact h9
   have HJ6:Hid (JC (set2 u3 (w.heap.size+2) 0 (.bool v2.b) (.slice v2.a v2.n v2.p)) w.heap.size 0 y):=(HJD.out.ext HJD.out.lt ed3).of_heap (qdU _ _ _ _ _ _ (by omega));have HY6:=Lib.hid ((HYD.out.ext ed3).kp hkp);have HU6:=Lib.hid ((HUD.out.ext ed3).kp hkp);obtain ⟨W6,hW6⟩ : ∃ W6,set2 u3 (w.heap.size+2) 0 (.bool v2.b) (.slice v2.a v2.n v2.p)=W6:=⟨_,rfl⟩;obtain ⟨⟨k0,k1⟩,hf0,hf1,hg5⟩:=hA5.put;rw [hW6] at HA6 HJ6 HY6 HU6;unfold set2 at hW6;have HW6:=Lib.hid hW6;clear hA5 hkp hu hv2 ed1 ed2 ed3 hW6 HAD2 HJD HYD HUD HXD C2 C7 hHeld hSn;((refine qaa 8 (o:=?_) (by kernel_rfl) ?_ ?_;rotate_left 1;(simp only [xgA,xgB,xgC];rfl);intro K hK);go_simp;(refine hK.out _ _ (fun h=>absurd rfl h) ?_);clear hK K;refine qac (by kernel_rfl) ?_ _)
   go_upto_region 4 with (fail)
   rw [HW6.out];clear k0 k1 hf0 hf1 hg5 HW6 h1wd hswd h2wd;go_wp2
   go_roundw
   case rel=>exact ⟨t+1,k,v2,by have:=HTK.out;omega,by go_num,HA6,HJ6,HY6,HU6⟩
   case measure=>simp [intOf]
end Go.Proofs.YtmcfpnmoklnhoaaGreat
