/- mainvar.Join. pseudo.exactCoefs. the division of two polynomials with the same main variable: plain law. copy of a row of polynomials; products of polynomials without the variable. -/
import Derived.Test.YtmcfpnmoklnhoaaGreatBa
import Derived.Test.YtmcfpnmoklnhoaaGreatMm
import Derived.Test.YtmcfpnmoklnhoaaGreatNe
set_option linter.unusedVariables false
set_option maxRecDepth 100000
set_option maxHeartbeats 400000000
set_option linter.unusedSimpArgs false

namespace Go.Proofs.YtmcfpnmoklnhoaaGreat
open Go.RowKit

theorem qa7.low {M:Nat->Prop} {w:World} {D N cap:Nat} {a:Option Addr} {P:Nat->List Tm} (h:qa7 M w D (.slice a N cap) N P) : ∃ T:Nat->List Tm,∀ i,i<N->Sim (T i) (P i)/\Low D (T i):=by
 refine qjC (Q:=fun i T=>Sim T (P i)/\Low D T) [] fun i hi=>?_;obtain ⟨b,off,_,_,_,_,_,e0,e1,e2,e3,_,_,_,_,t,h1,h2,h3,h4⟩:=h.at i hi;exact ⟨_,h4,(qeH _ t h2).mono (by show t.1.toNat<=D;omega)⟩
theorem qd6 {L c:Nat} {P:Nat->List Tm} : ∀ n,(∀ i,i<n->(P i).length<=c)->(poly L n P).length<=n*c
 | 0,_=>by rw [qb0];simp
 | n+1,h=>by
  have ih:=qd6 (L:=L) n fun i hi=>h i (by omega);have h1:=h n (by omega);rw [qal,List.length_append,Nat.add_mul,Nat.one_mul];simp only [shift,List.length_map];omega
theorem qhm {L c:Nat} {P:Nat->List Tm} : ∀ n,(∀ i,i<n->nrm (P i)<=c)->nrm (poly L n P)<=n*c
 | 0,_=>by rw [qb0];simp [nrm]
 | n+1,h=>by
  have ih:=qhm (L:=L) n fun i hi=>h i (by omega);have h1:=h n (by omega);rw [qal,qas,qbq,Nat.add_mul,Nat.one_mul];omega
theorem qmC {n:Nat} (h:n<=4294967295):dlen n<=1:=by rw [qao,Nat.pow_one];omega
theorem qgy {L A N:Nat} {P:Nat->List Tm} (hN:N<=4294967295) (h : ∀ i,i<N->dlen (nrm (P i))<=A):dlen (nrm (poly L N P))<=A+2:=by
 have h1:=qhm (L:=L) (c:=4294967296 ^ A) N fun i hi=>Nat.le_of_lt ((qao _ _).1 (h i hi));have h2:=qah h1;have h3:=qaY N (4294967296 ^ A);have h4:=qmC hN
 have h5:dlen (4294967296 ^ A)<=A+1:=by
  rw [qao];exact Nat.pow_lt_pow_right (by omega) (by omega)
 omega
theorem quR {M : Nat -> Prop} {w : World} {D N cap S A : Nat} {a : Option Addr} {P : Nat -> List Tm} (h : qa7 M w D (.slice a N cap) N P) (hD : D + 1 <= 4) (hdeg : ∀ i, i < N -> Deg S (P i)) (hN : N <= S + 1) (hS : (S + 1) ^ (D + 1) <= 1099511627776) (hS2 : S <= 1000000) (hdl : ∀ i, i < N -> dlen (nrm (P i)) <= A) (hA : A + 2 <= 1099511627776) :
  PI M w ⟨(D:Int)+1,false,none,0,0,a,N,cap⟩ (poly (D+1) N P):=by
 obtain ⟨kid,hkid⟩:=qjC (dfl (D+1)) (n:=N) (Q:=fun i u=>(∃ b off,a=some ⟨b,off,none⟩/\N<=cap/\cap<=maxLen/\b<w.heap.size /\ ¬ M b /\ ∃ e0 e1 e2 e3,w.cell? ⟨b,off+i*4,none⟩=some e0/\w.cell? ⟨b,off+i*4+1,none⟩=some e1/\w.cell? ⟨b,off+i*4+2,none⟩=some e2/\w.cell? ⟨b,off+i*4+3,none⟩=some e3/\RR M w (D+1) u e0 e1 e2 e3)/\qa2 (D+1) u=true/\okT (D+1) u/\u.1<=D/\Sim (qak (D+1) u) (P i)) (by
  intro i hi;obtain ⟨b,off,h1,h2,h3,h4,h5,e0,e1,e2,e3,x0,x1,x2,x3,t,g1,g2,g3,g4⟩:=h.at i hi
  exact ⟨t,⟨b,off,h1,h2,h3,h4,h5,e0,e1,e2,e3,x0,x1,x2,x3,g1⟩,g2,g1.ok,g3,g4⟩)
 have hT:qak (D+1+1) (mkT (D+1) ((D:Int)+1) ⟨false,0,fun _=>0⟩ N kid)=poly (D+1) N (fun i=>qak (D+1) (kid i)):=by
  rw [qde _ _ _ _ _ (by omega) (by omega),show ((D:Int)+1).toNat=D+1 by omega]
 refine ⟨D+1+1,mkT _ ((D:Int)+1) ⟨false,0,fun _=>0⟩ N kid,⟨rfl,by show -9223372036854775808<=(D:Int)+1/\(D:Int)+1<=9223372036854775807;omega,⟨rfl,qeb _ _ _⟩,h.1,?_⟩,.inr ⟨by omega,?_,?_,?_⟩,?_⟩
 ·rcases h.2 with ⟨h1,h0⟩ | ⟨b,off,cap',h1,h2,h3,h4,_⟩
  ·simp only [Value.slice.injEq] at h1;obtain ⟨rfl,rfl,rfl⟩:=h1;exact .inl ⟨⟨none,0,rfl,Nat.zero_le _,fun _=>rfl⟩,rfl⟩
  ·simp only [Value.slice.injEq,true_and] at h1;obtain ⟨rfl,rfl⟩:=h1;refine .inr ⟨b,off,cap,rfl,h2,h3,h4,fun i hi=>?_⟩;obtain ⟨b',off',e,_,_,_,_,hk⟩:=(hkid i hi).1;simp only [Option.some.injEq,Addr.mk.injEq,and_true] at e;obtain ⟨rfl,rfl⟩:=e;exact hk
 ·rw [hT];refine Nat.le_trans (qd6 (c:=(S+1) ^ D) N fun i hi=>?_) ?_
  ·have h1:=qeI S (D+1) (kid i) (hkid i hi).2.1 (hkid i hi).2.2.1 (qb9 (hkid i hi).2.2.2.2 (hdeg i hi));refine Nat.le_trans h1 (Nat.pow_le_pow_right (by omega) ?_);have:=(hkid i hi).2.2.2.1;show (kid i).1.toNat<=D;omega
  ·rw [Nat.pow_succ,Nat.mul_comm] at hS;exact Nat.le_trans (Nat.mul_le_mul_right _ hN) hS
 ·rw [hT];have:=qgy (L:=D+1) (A:=A) (N:=N) (P:=fun i=>qak (D+1) (kid i)) (by omega) fun i hi=>Nat.le_trans (qah (qcL (hkid i hi).2.1 (hkid i hi).2.2.2.2)) (hdl i hi);omega
 ·rw [hT];intro s hs k;obtain ⟨i,hi,s',hs',rfl⟩:=qck hs;have h1:=qeJ S (D+1) (kid i) (hkid i hi).2.1 (hkid i hi).2.2.1 (qb9 (hkid i hi).2.2.2.2 (hdeg i hi)) s' hs' k;show (Mo.add s'.2 (xp (D+1) (i:Int))).get k<=_;rw [qax];rw [qaB _ k _ (by omega) hD]
  split <;> omega
 ·rw [hT];exact qaJ _ _ _ _ fun i hi=>(hkid i hi).2.2.2.2
theorem qec (l:Int) (w:World):Calls Tryz.prog 106 #[.int .i64 l] w fun e w'=>e = .returned (.bool (qav l))/\w=w':=by
 by_cases h1:1<=l
 ·by_cases h2:l<=4
  ·have H:Hid (qav l=true):=by show _=_;unfold qav;simp [h1,h2]
   go_enter Tryz.func106,Tryz.ntmps106
   go_wp2;go_ret;exact ⟨by rw [H.out];rfl,rfl⟩
  ·have H:Hid (qav l=false):=by show _=_;unfold qav;simp [h2]
   go_enter Tryz.func106,Tryz.ntmps106
   go_wp2;go_ret;exact ⟨by rw [H.out];rfl,rfl⟩
 ·have H:Hid (qav l=false):=by show _=_;unfold qav;simp [h1]
  go_enter Tryz.func106,Tryz.ntmps106
  go_wp2;go_ret;exact ⟨by rw [H.out];rfl,rfl⟩
theorem CRx.down {M:Nat->Prop} {w:World} {D:Nat} {v:PE} {l T:List Tm} (h:CRx M w 4 v l) (hs:Sim T l) (hT:Low D T):CRx M w D v l:=by
 refine CR.relev h ?_
 by_cases hc:v.lv<=D
 ·exact hc
 ·exfalso;have hl:=h.lev;obtain ⟨E,b,off,P,hlv,hE4,hEL,hb0,hn0,hka,hn2,hnL,hnc,hcm,hb,hMb,hlow,hnz,hsim,hnr,hkid⟩:=h.node (by omega);obtain ⟨q,hq1,hq2⟩:=(qo2 hE4 (by omega) hlow hnz).2.resolve_left (by omega);rw [hsim q,<- hs q] at hq1;refine hq1 (hT.coef (k:=E+1) (by omega) hE4 ?_);rw [hq2];omega
theorem qfg {M : Nat -> Prop} {D N cap S A : Nat} {a : Option Addr} {P : Nat -> List Tm} (w : World) (hM : Mb M w) (h : qa7 M w D (.slice a N cap) N P) (hD : D + 1 <= 4) (hdeg : ∀ i, i < N -> Deg S (P i)) (hN : N <= S + 1) (hS : (S + 1) ^ (D + 1) <= 1099511627776) (hS2 : S <= 1000000) (hdl : ∀ i, i < N -> dlen (nrm (P i)) <= A) (hA : A + 2 <= 1099511627776) :
  Calls Tryz.prog 62 #[.slice a N cap,.int .i64 ((D:Int)+1)] w (qa4 M w (D+1) (poly (D+1) N P)):=by
 obtain ⟨T,hT⟩:=h.low;have HTL:Hid (Sim (poly (D+1) N T) (poly (D+1) N P)/\Low (D+1) (poly (D+1) N T)):=⟨qaJ _ _ _ _ fun i hi=>(hT i hi).1,qh2 _ _ _ (by omega) hD fun i hi=>by rw [Nat.add_sub_cancel];exact (hT i hi).2⟩;have hE:=(Ext.refl w).alloc (.cells zA 33);have hB:=Blk.of_arr w zA 33 4 rfl;have hM2:Mb (Mx M w.heap.size (w.heap.size+1)) (w.alloc (.cells zA 33)):=Mx.mb hM (by simp) (by simp);have hpi:=((quR h hD hdeg hN hS hS2 hdl hA).more (M':=Mx M w.heap.size (w.heap.size+1)) (Mx.more (Nat.le_refl _))).ext hE;have CT:=Lib.hid (qbX _ _ _ _ hM2 hpi)
 have hlev:qav ((D:Int)+1)=true:=by unfold qav;simp;omega
 have CTL:=Lib.hid (fun W=>qec ((D:Int)+1) W);rw [hlev] at CTL;have HE:=Lib.hid hE;have HB:=Lib.hid hB;clear hT hE hB hM2 hpi hlev h hM hdeg hN hS hS2 hdl hA
 go_enter Tryz.func62,Tryz.ntmps62
 go_wp2_with (fail);refine (CTL.out _).mono ?_;rintro e w1 ⟨rfl,rfl⟩;go_wp2_with (fail);refine CT.out.mono ?_;rintro e w2 ⟨v,rfl,hv,he2⟩;obtain ⟨⟨q0,q1,q2,q3⟩,⟨f0,f1,f2,f3⟩,⟨r0,r1,r2,r3⟩,HF⟩:=qcu (M:=M) (w:=w) (L:=D+1) (HB.out.ext he2) (Mx.at (by omega)) (by omega) (HE.out.trans he2) (hv.down HTL.out.1 HTL.out.2) Mx.sub;clear CT CTL hv he2;go_wp2;exact bodyPost_ret (v:=.agg (peA v)) (by simp [results,Tryz.results62,go_sem,r0,r1,r2,r3]) rfl HF.out


def inB (B C:Nat):Nat:=B+(B+1)*C
def qX (C:Nat):Nat->Nat->Nat
 | 0,_=>1
 | L+1,B=>(B+2)*(qX C L (inB B C)+1)+3
def OkB (C:Nat):Nat->Nat->Prop
 | 0,B=>B<=1000000/\(B+1)*(C+1)<=1099511627776
 | L+1,B=>(inB B C<=1000000/\(inB B C+1) ^ (L+1)<=1099511627776/\(inB B C+1)*(C+1)<=1099511627776)/\OkB C L (inB B C)
theorem qlw {B B' C:Nat} (h:B<=B'):inB B C<=inB B' C:=by
 have:=Nat.mul_le_mul_right C (show B+1<=B'+1 by omega);unfold inB;omega
theorem qlx (B C:Nat):B<=inB B C:=by unfold inB;omega
theorem OkB.mono {C:Nat} : ∀ {L B B':Nat},B<=B'->OkB C L B'->OkB C L B
 | 0,B,B',h,k=>⟨by have:=k.1;omega,Nat.le_trans (Nat.mul_le_mul_right _ (by omega)) k.2⟩
 | L+1,B,B',h,k=>by
  have h1:=qlw (C:=C) h;exact ⟨⟨Nat.le_trans h1 k.1.1,Nat.le_trans (Nat.pow_le_pow_left (by omega) _) k.1.2.1,Nat.le_trans (Nat.mul_le_mul_right _ (by omega)) k.1.2.2⟩,OkB.mono h1 k.2⟩
theorem OkB.down {C L B:Nat} (h:OkB C (L+1) B):OkB C L B:=h.2.mono (qlx B C)
theorem OkB.to {C B:Nat} {L E:Nat} (h:OkB C L B) (hE:E<=L):OkB C E B:=by
 obtain ⟨k,rfl⟩ : ∃ k,L=E+k:=⟨L - E,by omega⟩;clear hE
 induction k with
 | zero=>exact h
 | succ k ih=>exact ih h.down
theorem qnK {C:Nat} : ∀ {L B B':Nat},B<=B'->qX C L B<=qX C L B'
 | 0,_,_,_=>Nat.le_refl _
 | L+1,B,B',h=>by
  have h1:=qnK (C:=C) (L:=L) (qlw (C:=C) h);have:=Nat.mul_le_mul (show B+2<=B'+2 by omega) (show qX C L (inB B C)+1<=qX C L (inB B' C)+1 by omega);simp only [qX];omega
theorem qry (C L B:Nat):qX C L B+2<=qX C (L+1) B:=by
 have h1:=qnK (C:=C) (L:=L) (qlx B C);have h2:2*(qX C L (inB B C)+1)<=(B+2)*(qX C L (inB B C)+1):=Nat.mul_le_mul_right _ (by omega);simp only [qX];omega
theorem quW {C B:Nat} {L E:Nat} (hE:E<=L):qX C E B<=qX C L B:=by
 obtain ⟨k,rfl⟩ : ∃ k,L=E+k:=⟨L - E,by omega⟩;clear hE
 induction k with
 | zero=>exact Nat.le_refl _
 | succ k ih=>have:=qry C (E+k) B;rw [<- Nat.add_assoc];omega
theorem qmm (C L B G:Nat):qX C L B*(G+2)+2<=qX C (L+1) B*(G+2):=by
 have h1:=Nat.mul_le_mul_right (G+2) (qry C L B);rw [Nat.add_mul] at h1;omega
theorem CRx.lowU {M:Nat->Prop} {w:World} {L:Nat} {x:PE} {l:List Tm} (h:CRx M w L x l) : ∃ T,Sim T l /\ ∀ t ∈ T,∀ k:Nat,x.lv<k->k<=4->t.2.get k=0:=by
 obtain ⟨t,h1,h2,h3,h4⟩:=h;obtain ⟨e0,_⟩:=h1.form;simp only [Value.int.injEq,true_and] at e0;have hl:=qeH _ t h2;have h0:=qch h2;exact ⟨_,h4,fun s hs k hk hk4=>hl s hs k (by show t.1.toNat<k;omega) hk4⟩
def ExR (M:Nat->Prop) (L:Nat) (l r:List Tm) (A:Nat) (v:PE) (ok:Bool) (w:World):Prop:=(ok=true -> ∃ q,CRx M w L v q/\Sim (pmul q r) l/\dlen (nrm q)<=A)/\(ok=false -> ¬ Dv r l)
def qdp (M:Nat->Prop) (w:World) (L:Nat) (l r:List Tm) (A:Nat) (e:Ending) (w':World):Prop:=∃ (v:PE) (ok:Bool),e = .returned (.tuple #[.agg (peA v),.bool ok])/\ExR M L l r A v ok w'/\Ext w w'
def qpy (C G L:Nat):Prop:=∀ (M:Nat->Prop) (l r:List Tm) (x y:PE) (B A:Nat) (w:World),Mb M w->CRx M w L x l->CRx M w 4 y r -> ¬ Sim r []->Deg B l->Deg C r->dlen (nrm l)<=A->dlen (nrm r)<=G->OkB C L B->A+qX C L B*(G+2)<=549755813888 ->
 Calls Tryz.prog 67 #[.agg (peA x),.agg (peA y)] w (qdp M w L l r (A+qX C L B*(G+2)))
theorem qa4.exT {M:Nat->Prop} {w W:World} {L A:Nat} {l q r:List Tm} {y:PE} (h:qa4 M w L q (.returned (.agg (peA y))) W) (hs:Sim (pmul q r) l) (hA:dlen (nrm q)<=A):qdp M w L l r A (.returned (.tuple #[.agg (peA y),.bool true])) W:=by
 obtain ⟨y',e,h1,h2⟩:=h;simp only [Ending.returned.injEq,Value.agg.injEq] at e;exact ⟨y',true,by rw [e],⟨fun _=>⟨q,h1,hs,hA⟩,fun h=>(by cases h)⟩,h2⟩
theorem qa4.exF {M:Nat->Prop} {w W:World} {L L' A:Nat} {l q r:List Tm} {y:PE} (h:qa4 M w L' q (.returned (.agg (peA y))) W) (hs : ¬ Dv r l):qdp M w L l r A (.returned (.tuple #[.agg (peA y),.bool false])) W:=by
 obtain ⟨y',e,h1,h2⟩:=h;simp only [Ending.returned.injEq,Value.agg.injEq] at e;exact ⟨y',false,by rw [e],⟨fun h=>(by cases h),fun _=>hs⟩,h2⟩
theorem qar {w' wr:World} {b:Nat} {x:PE} (h:P4 wr b x) (he:w'.heap[b]? = wr.heap[b]?):P4 w' b x:=by
 have hc:=fun o=>World.cell?_of_block (w:=wr) (w':=w') (a:=⟨b,o,none⟩) he;obtain ⟨p0,p1,p2,p3⟩:=h;exact ⟨(hc 0).trans p0,(hc 1).trans p1,(hc 2).trans p2,(hc 3).trans p3⟩
theorem qhU (C G E : Nat) (hE4 : E + 1 <= 4) (ih : qpy C G E) (M : Nat -> Prop) (l r : List Tm) (x y : PE) (B A : Nat) (w : World) (hM : Mb M w) (h : CRx M w (E + 1) x l) (hl : x.lv = (E : Int) + 1) (hy : CRx M w 4 y r) (hyl : y.lv < x.lv) (hz : ¬ Sim r []) (hB : Deg B l) (hC : Deg C r) (hA : dlen (nrm l) <= A) (hG : dlen (nrm r) <= G) (hO : OkB C (E + 1) B) (hS : A + qX C (E + 1) B * (G + 2) <= 549755813888) :
  Calls Tryz.prog 125 #[.agg (peA x),.agg (peA y)] w (qdp M w (E+1) l r (A+qX C (E+1) B*(G+2))):=by
 obtain ⟨i0,hi,hz0,hz1,hz2⟩:=info_parts Tryz.info33;obtain ⟨hE0,hX0,hY0,hB0,hM0⟩:=qks hM x y;obtain ⟨E',b,off,P,hlv,hE4',hEL,hb0,hn0,hka,hn2,hnL,hnc,hcm,hb,hMb,hlow,hnz,hsim,hnr,hkid⟩:=h.node (by omega)
 obtain rfl:E'=E:=by omega
 have hqx:=qmm C E' B G;have hdn:=qbx hE4 (by omega) hlow hnz (hB.sim hsim.symm);have hNr:NN r:=hy.nn;obtain ⟨T,hT1,hT2⟩:=hy.lowU;have HDV:Hid (∀ i,i<x.kn -> ¬ Dv r (P i) -> ¬ Dv r l):=fun i hi' hn hd=>hn ((qrP hE4 hlow (g:=T) (fun t ht=>hT2 t ht (E'+1) (by omega) hE4) (hd.sim hT1.symm hsim.symm) i hi').sim hT1 (Sim.refl _))
 have HCALL:Hid (∀ i,i<x.kn -> ∃ c,qaI w b (off+i*4) c /\ ∀ (M':Nat->Prop) W,Mb M' W->(∀ g,M' g->M g∨w.heap.size<=g)->Ext w W->Calls Tryz.prog 67 #[.agg (peA c),.agg (peA y)] W (qdp M' W E' (P i) r (A+qX C E' B*(G+2)))):=fun i hi'=>by
  obtain ⟨c,hc1,hc2,_⟩:=hkid i hi';exact ⟨c,hc1,fun M' W hMW hmore he=>ih M' (P i) r c y B A W hMW ((hc2.more hmore).ext he) ((hy.more hmore).ext he) hz (hdn.2 i hi') hC (Nat.le_trans (qah (Nat.le_trans (qa0 (E'+1) x.kn P i hi') hnr)) hA) hG hO.down (by omega)⟩
 have HFIN:Hid (∀ Q:Nat->List Tm,(∀ i,i<x.kn->Sim (pmul (Q i) r) (P i))->Sim (pmul (poly (E'+1) x.kn Q) r) l):=fun Q hQ=>(qbd (E'+1) x.kn Q r).symm.trans ((qaJ _ _ _ _ hQ).trans hsim);have HDQ:Hid (∀ i,i<x.kn -> ∀ q,NN q->Sim (pmul q r) (P i)->Deg (inB B C) q):=fun i hi' q hq hs=>(qeh hq hNr hz hs (hdn.2 i hi')).mono (qlx B C)
 have hkB:x.kn<=inB B C+1:=by have:=hdn.1;have:=qlx B C;omega
 have hOk:=hO.1;have HMM:=Lib.hid hM;generalize hA1:A+qX C E' B*(G+2)=A1 at *
 have hA2:A1+2<=A+qX C (E'+1) B*(G+2):=by omega
 have hA1L:A1+2<=1099511627776:=by omega
 generalize A+qX C (E'+1) B*(G+2)=A2 at *;obtain ⟨x0,x1,x2,x3⟩:=hX0;obtain ⟨y0,y1,y2,y3⟩:=hY0
 have hsz0:w.heap.size+3=((((w.alloc (.cells (peA x) 33)).alloc (.cells (peA y) 33)).alloc (.cells zA 33))).heap.size:=by simp
 generalize hW:((w.alloc (.cells (peA x) 33)).alloc (.cells (peA y) 33)).alloc (.cells zA 33)=W at *;have HW:=Lib.hid hW;have HE:=Lib.hid hE0;have HS:Hid (SP2 w.heap.size x y W):=⟨⟨x0,x1,x2,x3⟩,⟨y0,y1,y2,y3⟩⟩;have HB0:=Lib.hid hB0;have hS1:=hO.1.1;clear hE0 hB0 hM0 h hl hy hyl hz hB hC hA hG hO hS ih hlow hnz hsim hnr hkid hdn hNr hT1 hT2 hqx hA1 hW hM;rw [hka] at x3
 go_enter Tryz.func125,Tryz.ntmps125
 go_upto_region 1 with (fail)
 rw [HW.out]
 go_wp2_with (first | (refine wpList_make_full _ rfl _ _ _ rfl (w.heap.size+3) 33 i0 (.agg #[.int .i64 0,.bool false,.slice none 0 0,.slice none 0 0]) 4 Tryz.underlying31 hi hz0 hz1 .i64 .i64 _ _ x.kn rfl rfl ?c4 ?c5 ?c2 ?c3 ?c6 ?_))
 case c2=>rw [hz2];omega
 case c3=>unfold maxLen;omega
 case c4=>simp
 case c5=>simp
 case c6=>omega
 intro w1 hown hgrow;rw [<- hsz0] at hown ⊢;have hBk:=(Blk.made hown rfl (by omega)).congr (f':=zc4) (fun i _=>qb8 i);have he1:=qaE hgrow;have HB1:=Lib.hid (HB0.out.ext he1);have HS1:=Lib.hid (HS.out.ext he1);have HE1:=Lib.hid (HE.out.trans he1)
 have hs1:w.heap.size+4<=w1.heap.size:=by have:=hBk.lt;omega
 have HKF:Hid (qaz (Mx M w.heap.size (w.heap.size+4)) w1 E' (w.heap.size+3) x.kn (fun _=>[])):=qaz.fresh hBk;clear x0 x1 x2 x3 y0 y1 y2 y3;obtain ⟨⟨x0,x1,x2,x3⟩,_⟩:=HS1.out;rw [hka] at x3;clear hown hgrow hBk he1 HB0 HS HE HW;go_wp2
 go_loopw [18] (fun i wr=>∃ (k:Nat) (Q:Nat->List Tm),k<=x.kn/\i = .int .i64 k/\w.heap.size+4<=wr.heap.size/\Hid (qaz (Mx M w.heap.size (w.heap.size+4)) wr E' (w.heap.size+3) x.kn (fun i=>if i<k then Q i else []))/\Hid (∀ i,i<k->NN (Q i)/\Sim (pmul (Q i) r) (P i)/\dlen (nrm (Q i))<=A1)/\Hid (Ext w wr)/\Hid (SP2 w.heap.size x y wr)/\Hid (Blk wr (w.heap.size+2) 33 4 (arr zA))) (fun i _=>x.kn - (intOf i).toNat)
 case atStart=>exact ⟨0,fun _=>[],Nat.zero_le _,rfl,hs1,HKF.out.congr fun i _=>by rw [if_neg (by omega)];exact Sim.refl _,fun i hi=>absurd hi (Nat.not_lt_zero _),HE1,HS1,HB1⟩
 case round=>
  clear HKF HE1 HS1 HB1 x0 x1 x2 x3 hs1;obtain ⟨k,Q,hk,rfl,hsz,HK,HQ,HEW,HSW,HBR⟩:=hrel
  by_cases hlt:k<x.kn
  ·obtain ⟨c,hc,hcall⟩:=HCALL.out k hlt;obtain ⟨c0,c1,c2,c3⟩:=hc.ext hb HEW.out;have hbw:b<wr.heap.size:=Nat.lt_of_lt_of_le hb HEW.out.size;obtain ⟨_,y0,y1,y2,y3⟩:=HSW.out;have hEa:=(Ext.refl wr).alloc (.cells (peA c) 33)
   have hltI:(k:Int)<(x.kn:Int):=by omega
   have hw1:w.heap.size+1<wr.heap.size:=by omega
   have hw0:w.heap.size<wr.heap.size:=by omega
   have CTR:=Lib.hid (hcall (Mx M w.heap.size (w.heap.size+4)) _ (Mx.mb (k:=w.heap.size+4) HMM.out (HEW.out.trans hEa).size (by simp;omega)) (Mx.more (Nat.le_refl _)) (HEW.out.trans hEa));have HEA:=Lib.hid hEa;clear hcall hEa hc hlv hka hn0 hb0 hsz0;go_wp2_with (fail);refine (CTR.out).mono ?_;rintro e w4 ⟨v,ok,rfl,hR,he4⟩;have he5:=HEA.out.trans he4;have hs4:=he5.size
   cases ok with
   | false=>
    have HND:=Lib.hid (HDV.out k hlt (hR.2 rfl));obtain ⟨⟨q0,q1,q2,q3⟩,⟨f0,f1,f2,f3⟩,⟨r0,r1,r2,r3⟩,HF⟩:=qcu (M:=M) (M':=Mx M w.heap.size (w.heap.size+3)) (w:=w) (L:=0) (l:=[]) (y:=PE.z) ((HBR.out.ext he5).ext ((Ext.refl w4).alloc (.cells (peA v) 33))) (Mx.at (by omega)) (by omega) ((HEW.out.trans he5).trans ((Ext.refl w4).alloc (.cells (peA v) 33))) (CR.zero _ _ 0) Mx.sub;have HF2:=Lib.hid (HF.out.exF (L:=E'+1) (A:=A2) HND.out);simp only [PE.z] at r0 r1 r2 r3
    have hw2:w.heap.size+2<(w4.alloc (.cells (peA v) 33)).heap.size:=by simp;omega
    clear HF hR he4 he5 HND c0 c1 c2 c3 y0 y1 y2 y3 CTR HK HQ HEW HSW HBR HCALL HFIN HDQ HDV HEA
    go_upto_region 6 with (fail)
    generalize w4.alloc (.cells (peA v) 33)=W5 at *;clear hs4 hw1 hw0 hbw;go_wp2;exact bodyPost_ret (v:=.tuple #[.agg (peA PE.z),.bool false]) (by simp [results,Tryz.results125,go_sem,r0,r1,r2,r3,PE.z]) rfl HF2.out
   | true=>
    obtain ⟨q,hq1,hq2,hq3⟩:=hR.1 rfl;have hEb:=(Ext.refl w4).alloc (.cells (peA v) 33);have he6:=he5.trans hEb;have hq5:=hq1.ext hEb;have hv5:P4 (w4.alloc (.cells (peA v) 33)) w4.heap.size v:=(Blk.of_arr w4 (peA v) 33 4 rfl).p4
    have hs5:(w4.alloc (.cells (peA v) 33)).heap.size=w4.heap.size+1:=by simp
    have HE6:=Lib.hid he6;have HQ5:=Lib.hid (And.intro hq5 (And.intro hq2 hq3));have hnn:=hq1.nn;clear hR he4 he5 he6 hEb hq1 hq2 hq3 hq5 CTR HCALL HFIN HDQ HDV HEA c0 c1 c2 c3 y0 y1 y2 y3
    go_upto_region 6 with (fail)
    generalize w4.alloc (.cells (peA v) 33)=W5 at *;obtain ⟨v0,v1,v2,v3⟩:=hv5;have hK4:=HK.out.ext HE6.out;obtain ⟨⟨_,k0⟩,⟨_,k1⟩,⟨_,k2⟩,⟨_,k3⟩,hfr,hg4⟩:=hK4.at k hlt;have hf0:=hfr (k*4);have hf1:=hfr (k*4+1);have hf2:=hfr (k*4+2);have hf3:=hfr (k*4+3);have hKs:=hK4.set (Mx.at (by omega)) k hlt HQ5.out.1;have hEs:=(HEW.out.trans HE6.out).set4 (g:=w.heap.size+3) (by omega) (k*4) (.int .i64 v.lv) (.bool v.b) (.slice v.a v.n v.p) (.slice v.ka v.kn v.kp);have hBs:=(HBR.out.ext HE6.out).of_heap (qaf W5 (w.heap.size+3) (k*4) (.int .i64 v.lv) (.bool v.b) (.slice v.a v.n v.p) (.slice v.ka v.kn v.kp) (w.heap.size+2) (by omega));have hSs:SP2 w.heap.size x y (set4 W5 (w.heap.size+3) (k*4) (.int .i64 v.lv) (.bool v.b) (.slice v.a v.n v.p) (.slice v.ka v.kn v.kp)):=⟨qar (HSW.out.1.ext HE6.out) (qaf _ _ _ _ _ _ _ _ (by omega)),qar (HSW.out.2.ext HE6.out) (qaf _ _ _ _ _ _ _ _ (by omega))⟩
    have hzs:w.heap.size+4<=(set4 W5 (w.heap.size+3) (k*4) (.int .i64 v.lv) (.bool v.b) (.slice v.a v.n v.p) (.slice v.ka v.kn v.kp)).heap.size:=by rw [qap];omega
    have HQ2:Hid (∀ i,i<k+1->NN (qcp Q k q i)/\Sim (pmul (qcp Q k q i) r) (P i)/\dlen (nrm (qcp Q k q i))<=A1):=fun i hi=>by
     by_cases hik:i=k
     ·subst hik;rw [qaL];exact ⟨hnn,HQ5.out.2⟩
     ·rw [qaQ _ _ _ _ (by omega)];exact HQ.out i (by omega)
    have HK5:Hid (qaz (Mx M w.heap.size (w.heap.size+4)) (set4 W5 (w.heap.size+3) (k*4) (.int .i64 v.lv) (.bool v.b) (.slice v.a v.n v.p) (.slice v.ka v.kn v.kp)) E' (w.heap.size+3) x.kn (fun i=>if i<k+1 then qcp Q k q i else [])):=by
     refine hKs.congr fun i _=>?_
     by_cases hik:i=k
     ·subst hik;rw [if_pos rfl,if_pos (by omega),qaL];exact Sim.refl _
     ·rw [if_neg hik]
      by_cases h3:i<k
      ·rw [if_pos h3,if_pos (by omega),qaQ _ _ _ _ h3];exact Sim.refl _
      ·rw [if_neg h3,if_neg (by omega)];exact Sim.refl _
    have HE5:=Lib.hid hEs;have HB5:=Lib.hid hBs;have HS5:=Lib.hid hSs;have HSZ5:=Lib.hid hzs
    have hw3:w.heap.size+3<W5.heap.size:=by omega
    have hw4:w4.heap.size<W5.heap.size:=by omega
    clear hK4 hKs hEs hBs hSs hzs hfr HK HQ HEW HSW HBR HQ5 HE6 hs5 hs4 hw0 hw1 hbw;go_wp2
    go_roundw
    case rel=>exact ⟨k+1,qcp Q k q,by omega,by go_num,HSZ5.out,HK5,HQ2,HE5,HS5,HB5⟩
    case measure=>simp [intOf];omega
  ·obtain rfl:k=x.kn:=by omega
   obtain ⟨⟨x0,_⟩,_⟩:=HSW.out;rw [hlv] at x0
   have hkr:qa7 (Mx M w.heap.size (w.heap.size+3)) wr E' (.slice (some ⟨w.heap.size+3,0,none⟩) x.kn x.kn) x.kn Q:=(HK.out.krow (fun g hg=>.inl (hg.imp id fun h=>by omega)) (fun hh=>hh.elim (HMM.out.new (by omega)) (by omega)) hnL).congr fun i hi=>by rw [if_pos hi];exact Sim.refl _
   have CTR:=Lib.hid (qfg (S:=inB B C) (A:=A1) wr (Mx.mb HMM.out HEW.out.size (by omega)) hkr hE4 (fun i hi=>HDQ.out i hi _ (HQ.out i hi).1 (HQ.out i hi).2.1) hkB hOk.2.1 hS1 (fun i hi=>(HQ.out i hi).2.2) (by omega));have HSI:=Lib.hid (HFIN.out Q fun i hi=>(HQ.out i hi).2.1);have HDL:Hid (dlen (nrm (poly (E'+1) x.kn Q))<=A2):=Nat.le_trans (qgy (A:=A1) (by omega) fun i hi=>(HQ.out i hi).2.2) hA2;clear hkr HCALL HK HDQ HDV HFIN HQ hlv hka hn0 hb0 hsz0 hlt hOk;go_wp2_with (fail);refine CTR.out.mono ?_;rintro e w5 ⟨v,rfl,hv,he5⟩;obtain ⟨⟨q0,q1,q2,q3⟩,⟨f0,f1,f2,f3⟩,⟨r0,r1,r2,r3⟩,HF⟩:=qcu (M:=M) (w:=w) (HBR.out.ext he5) (Mx.at (by omega)) (by omega) (HEW.out.trans he5) hv Mx.sub;have HF2:=Lib.hid (HF.out.exT HSI.out HDL.out);clear HF he5 hv CTR x0 HSI HDL;go_wp2;exact bodyPost_ret (v:=.tuple #[.agg (peA v),.bool true]) (by simp [results,Tryz.results125,go_sem,r0,r1,r2,r3]) rfl HF2.out


abbrev qbf (l:List Tm):List Tm:=pmul l [(-1,Mo.zero)]
theorem qaH (l:List Tm) (m:Mo):qab (qbf l) m = - qab l m:=by
 rw [qcb l _ m,qca,qag];show (-1:Int)*_=_;omega
theorem qeZ (l:List Tm):nrm (qbf l)=nrm l:=by rw [qbD,qj5];show _*1=_;omega
theorem qea {B:Nat} {l:List Tm} (h:Deg B l):Deg B (qbf l):=fun m hm k=>h m (fun h0=>hm (by rw [qaH,h0];rfl)) k
theorem qbH {l:List Tm} (h:NN l):NN (qbf l):=fun m hm=>by rw [qaH,h m hm];rfl
theorem NN.append {l r:List Tm} (h:NN l) (k:NN r):NN (l ++ r):=fun m hm=>by rw [qad,h m hm,k m hm];rfl
theorem NN.nil:NN []:=fun _ _=>rfl
theorem NN.shift {l:List Tm} (h:NN l) {k i:Nat} : NN (shift (xp k (i:Int)) l):=fun m hm=>by
 rw [qaF];refine h _ ?_
 cases hc:(Mo.sub m (xp k (i:Int))).nn with
 | false=>rfl
 | true=>
  rw [Mo.nn_iff] at hc
  have:m.nn=true:=by
   rw [Mo.nn_iff];have g1:(Mo.sub m (xp k (i:Int))).a=m.a - (if k=1 then (i:Int) else 0):=rfl;have g2:(Mo.sub m (xp k (i:Int))).b=m.b - (if k=2 then (i:Int) else 0):=rfl;have g3:(Mo.sub m (xp k (i:Int))).c=m.c - (if k=3 then (i:Int) else 0):=rfl;have g4:(Mo.sub m (xp k (i:Int))).d=m.d - (if k=4 then (i:Int) else 0):=rfl;rw [g1,g2,g3,g4] at hc
   have f : ∀ P:Prop,[Decidable P]->(0:Int)<=(if P then (i:Int) else 0):=fun P _=>by split <;> omega
   have:=f (k=1);have:=f (k=2);have:=f (k=3);have:=f (k=4);omega
  rw [hm] at this;cases this
theorem NN.poly {L:Nat} {P:Nat->List Tm} : ∀ {n:Nat},(∀ i,i<n->NN (P i))->NN (poly L n P)
 | 0,_=>NN.nil
 | n+1,h=>by rw [qal];exact (NN.poly fun i hi=>h i (by omega)).append (h n (by omega)).shift
theorem qeA (L:Nat) (P Q:Nat->List Tm) : ∀ n,Sim (poly L n fun i=>P i ++ Q i) (poly L n P ++ poly L n Q)
 | 0=>Sim.refl _
 | n+1=>fun m=>by
  have ih:=qeA L P Q n m;simp only [qal,qad,qcU] at ih ⊢;omega
theorem qcW {L:Nat} {P:Nat->List Tm} : ∀ {n:Nat},(∀ i,i<n->Sim (P i) [])->Sim (poly L n P) []
 | 0,_=>Sim.refl _
 | n+1,h=>by
  rw [qal];exact (qcW fun i hi=>h i (by omega)).append ((h n (by omega)).shift _)
theorem qm6 (L i j:Nat):Mo.add (xp L (i:Int)) (xp L (j:Int))=xp L ((j+i:Nat):Int):=Mo.ext_get fun k _ _=>by
 rw [qax]
 by_cases h:1<=L/\L<=4
 ·rw [qaB _ _ _ h.1 h.2,qaB _ _ _ h.1 h.2,qaB _ _ _ h.1 h.2];split <;> omega
 ·have h0 : ∀ i : Int, xp L i = Mo.zero := fun i => by
   simp only [xp,Mo.zero,Mo.mk.injEq];refine ⟨if_neg (by omega),if_neg (by omega),if_neg (by omega),if_neg (by omega)⟩
  rw [h0,h0,h0]
  have h1:Mo.zero.get k=0:=by simp only [Mo.get,Mo.zero];repeat (first | rfl | split)
  omega
theorem qj0 (L k:Nat) (c:List Tm) (G:Nat->List Tm) : ∀ n,Sim (pmul (shift (xp L (k:Int)) c) (poly L n G)) (poly L (k+n) fun i=>if k<=i then pmul c (G (i - k)) else [])
 | 0=>by
  rw [qb0,qdt];exact (qcW fun i hi=>by rw [if_neg (by omega)];exact Sim.refl _).symm
 | n+1=>by
  rw [qal,show k+(n+1)=(k+n)+1 by omega,qal,if_pos (by omega),show k+n - k=n by omega];refine (Sim.pmul_append_right _ _ _).trans ((qj0 L k c G n).append ?_);refine (qaZ _ _ _).trans (((qdH _ _ _).shift _).trans ?_);rw [qey,qm6];exact Sim.refl _
def rj (k:Nat) (c:List Tm) (G R:Nat->List Tm) (j:Nat) (i:Nat):List Tm:=if k<=i/\i<k+j then R i ++ qbf (pmul c (G (i - k))) else R i
theorem qnD (k:Nat) (c:List Tm) (G R:Nat->List Tm) (i:Nat):rj k c G R 0 i=R i:=if_neg (by omega)
theorem quS (k:Nat) (c:List Tm) (G R:Nat->List Tm) (j:Nat):rj k c G R j (k+j)=R (k+j):=if_neg (by omega)
theorem qnE (k:Nat) (c:List Tm) (G R:Nat->List Tm) (j i:Nat):rj k c G R (j+1) i=if i=k+j then R (k+j) ++ qbf (pmul c (G j)) else rj k c G R j i:=by
 unfold rj
 by_cases h:i=k+j
 ·subst h;rw [if_pos (by omega),if_pos rfl,show k+j - k=j by omega]
 ·rw [if_neg h]
  by_cases h2:k<=i/\i<k+j
  ·rw [if_pos h2,if_pos (by omega)]
  ·rw [if_neg h2,if_neg (by omega)]
def DvT (D n K B C A X g:Nat) (l r:List Tm) (k:Nat) (R Q:Nat->List Tm):Prop:=
 Sim l (pmul (poly (D+1) K fun i=>if k<=i then Q i else []) r ++ poly (D+1) (n+k) R) /\
 (∀ i,i<n+k->Deg (B+(K - k)*C) (R i)/\dlen (nrm (R i))<=A+(K - k)*((X+1)*(g+2))) /\
 (∀ i,k<=i->i<K->NN (Q i)/\Deg (B+(K - k)*C) (Q i)/\dlen (nrm (Q i))<=A+(K - k)*((X+1)*(g+2)))
theorem DvT.start {D n K B C A X g:Nat} {l r:List Tm} {R Q:Nat->List Tm} (hs:Sim (poly (D+1) (n+K) R) l) (h : ∀ i,i<n+K->Deg B (R i)/\dlen (nrm (R i))<=A):DvT D n K B C A X g l r K R Q:=by
 refine ⟨?_,fun i hi=>?_,fun i h1 h2=>by omega⟩
 ·have h0:Sim (poly (D+1) K fun i=>if K<=i then Q i else []) []:=qcW fun i hi=>by rw [if_neg (by omega)];exact Sim.refl _
  exact hs.symm.trans ((h0.pmul_left r).symm.append (Sim.refl (poly (D+1) (n+K) R)))
 ·rw [Nat.sub_self,Nat.zero_mul,Nat.zero_mul];exact h i hi
theorem DvT.no {D n K B C A X g:Nat} {l r:List Tm} {k:Nat} {R Q G T:Nat->List Tm} (h:DvT D n K B C A X g l r (k+1) R Q) (hD:D+1<=4) (hG : ∀ i,i<n+1->Low D (G i)) (hz : ¬ Sim (G n) []) (hr:Sim (poly (D+1) (n+1) G) r) (hN:NN r) (hT : ∀ i,i<n+k+1->Sim (T i) (R i)/\Low D (T i)) (hn : ¬ Dv (G n) (R (n+k))) : ¬ Dv r l:=fun hd=>hn (by
 obtain ⟨h1,_,h3⟩:=h
 obtain ⟨q,hq,hs⟩:=hd.rest (NN.poly (n:=K) fun i hi=>by
  by_cases hk:k+1<=i
  ·rw [if_pos hk];exact (h3 i hk hi).1
  ·rw [if_neg hk];exact NN.nil) h1
 have:=qtD hD hG hz (hN.sim hr.symm) hq (R:=T) (k:=k) (fun i hi=>(hT i hi).2) ((hr.pmul_right q).trans (hs.trans (qaJ _ _ _ _ fun i hi=>(hT i hi).1.symm)))
 exact this.sim (Sim.refl _) (hT _ (by omega)).1)
theorem DvT.end_no {D n K B C A X g:Nat} {l r:List Tm} {R Q G T:Nat->List Tm} (h:DvT D n K B C A X g l r 0 R Q) (hD:D+1<=4) (hG : ∀ i,i<n+1->Low D (G i)) (hz : ¬ Sim (G n) []) (hr:Sim (poly (D+1) (n+1) G) r) (hN:NN r) (hT : ∀ i,i<n->Sim (T i) (R i)/\Low D (T i)) (hn : ¬ Sim (poly (D+1) n R) []) : ¬ Dv r l:=fun hd=>hn (by
 obtain ⟨h1,_,h3⟩:=h;obtain ⟨q,hq,hs⟩:=hd.rest (NN.poly (n:=K) fun i hi=>by rw [if_pos (Nat.zero_le _)];exact (h3 i (Nat.zero_le _) hi).1) h1;have hpT:Sim (poly (D+1) n T) (poly (D+1) n R):=qaJ _ _ _ _ fun i hi=>(hT i hi).1
 exact hpT.symm.trans (qoR hD hG hz (hN.sim hr.symm) hq (Nat.le_refl n) (fun i hi=>(hT i hi).2) ((hr.pmul_right q).trans (hs.trans hpT.symm))))
theorem DvT.end_yes {D n K B C A X g:Nat} {l r:List Tm} {R Q:Nat->List Tm} (h:DvT D n K B C A X g l r 0 R Q) (hn:Sim (poly (D+1) n R) []):Sim (pmul (poly (D+1) K Q) r) l:=by
 have h1:=h.1;have h2:poly (D+1) K (fun i=>if 0<=i then Q i else [])=poly (D+1) K Q:=qgx _ _ _ _ fun i _=>if_pos (Nat.zero_le _);rw [h2] at h1;refine Sim.symm (h1.trans (fun m=>?_));rw [qad,show poly (D+1) (n+0) R=poly (D+1) n R from rfl,hn m];simp [qab]
theorem DvT.step {D n K B C A X g : Nat} {l r : List Tm} {k : Nat} {R Q G : Nat -> List Tm} (h : DvT D n K B C A X g l r (k + 1) R Q) (hk : k < K) {c : List Tm} (hr : Sim (poly (D + 1) (n + 1) G) r) (hGd : ∀ i, i < n -> Deg C (G i) /\ dlen (nrm (G i)) <= g) (hc : NN c) (hcd : Deg (B + (K - (k + 1)) * C) c) (hcs : Sim (pmul c (G n)) (R (n + k))) (hcl : dlen (nrm c) <= A + (K - (k + 1)) * ((X + 1) * (g + 2)) + X * (g + 2)) :
  DvT D n K B C A X g l r k (rj k c G R n) (fun i=>if i=k then c else Q i):=by
 obtain ⟨h1,h2,h3⟩:=h
 have e1:(K - k)*C=(K - (k+1))*C+C:=by
  rw [show K - k=(K - (k+1))+1 by omega,Nat.add_mul,Nat.one_mul]
 have e2:(K - k)*((X+1)*(g+2))=(K - (k+1))*((X+1)*(g+2))+(X*(g+2)+(g+2)):=by
  rw [show K - k=(K - (k+1))+1 by omega,Nat.add_mul,Nat.one_mul,Nat.add_mul X 1,Nat.one_mul]
 generalize (K - (k+1))*((X+1)*(g+2))=u at *;generalize (K - (k+1))*C=v at *;refine ⟨?_,fun i hi=>?_,fun i hi hiK=>?_⟩
 ·have hQ : Sim (poly (D + 1) K fun i => if k <= i then (if i = k then c else Q i) else []) (poly (D + 1) K (fun i => if k + 1 <= i then Q i else []) ++ shift (xp (D + 1) (k : Int)) c) := by
   refine (qeT hk (F':=fun i=>if k<=i then (if i=k then c else Q i) else []) (F:=fun i=>if k+1<=i then Q i else []) (l:=c) (fun i hi hik=>?_) ?_).1
   ·by_cases h5:k<=i
    ·rw [if_pos h5,if_neg hik,if_pos (by omega)]
    ·rw [if_neg h5,if_neg (by omega)]
   ·show (if k<=k then (if k=k then c else Q k) else [])=(if k+1<=k then Q k else []) ++ c;rw [if_pos (Nat.le_refl _),if_pos rfl,if_neg (by omega)];rfl
  have hU:=((hr.symm.pmul_right (shift (xp (D+1) (k:Int)) c))).trans (qj0 (D+1) k c G (n+1))
  have hU2:Sim (poly (D+1) (k+(n+1)) fun i=>if k<=i then pmul c (G (i - k)) else []) (poly (D+1) (n+k) (fun i=>if k<=i then pmul c (G (i - k)) else []) ++ shift (xp (D+1) ((n+k:Nat):Int)) (R (n+k))):=by
   rw [show k+(n+1)=(n+k)+1 by omega,qal,if_pos (by omega),show n+k - k=n by omega];exact (Sim.refl _).append (hcs.shift _)
  have hR:Sim (poly (D+1) (n+k) (rj k c G R n)) (poly (D+1) (n+k) R ++ qbf (poly (D+1) (n+k) fun i=>if k<=i then pmul c (G (i - k)) else [])):=by
   refine Sim.trans (qaJ _ _ _ (fun i=>R i ++ qbf (if k<=i then pmul c (G (i - k)) else [])) fun i hi=>?_) ((qeA _ _ _ _).trans ((Sim.refl _).append (qbd _ _ _ _)));unfold rj
   by_cases h5:k<=i
   ·rw [if_pos (by omega),if_pos h5];exact Sim.refl _
   ·rw [if_neg (by omega),if_neg h5];intro m;rw [qad,qaH];simp [qab]
  intro m;have a1:=h1 m;have a2:=(hQ.pmul_left r) m;have a3:=(hU.trans hU2) m;have a4:=hR m;rw [show n+(k+1)=(n+k)+1 by omega,qal] at a1;rw [qaq] at a2;simp only [qad,qaH] at a1 a2 a3 a4 ⊢;omega
 ·rw [e1,e2];obtain ⟨g1,g2⟩:=h2 i (by omega);unfold rj
  split
  ·rename_i h5;obtain ⟨p1,p2⟩:=hGd (i - k) (by omega);refine ⟨(g1.mono (by omega)).append (qea ((Deg.pmul hcd p1 hc).mono (by omega))),?_⟩;rw [qas,qeZ,qbD];have q1:=qc3 (nrm (R i)) (nrm c*nrm (G (i - k)));have q2:=qaY (nrm c) (nrm (G (i - k)));omega
  ·exact ⟨g1.mono (by omega),by omega⟩
 ·rw [e1,e2];simp only
  by_cases hik:i=k
  ·rw [if_pos hik];exact ⟨hc,hcd.mono (by omega),by omega⟩
  ·rw [if_neg hik];obtain ⟨p0,p1,p2⟩:=h3 i (by omega) hiK;exact ⟨p0,p1.mono (by omega),by omega⟩


theorem qhQ (P : Program) (w : World) (dT sT ty elem : TypeId) (g o dLen dCap : Nat) (a : Addr) (sLen sCap : Nat) (cur : Array Value) (t : TypeId) (cs : List Value) (k : Nat)
  (hu:P.underlying dT=some (.slice elem)) (hs:(P.info? elem).map (·.size)=some k)
  (hg:w.heap[g]? = some (.cells cur t (0,0))) (hn:cs.length=Nat.min sLen dLen*k)
  (hsrc : ∀ j v,cs[j]? = some v->w.cell? (a.add j)=some v) (hfit:o+cs.length<=cur.size) (h1 : ∀ v ∈ cs,v.oneCell'=true) :
  (Builtin.copy_ #[dT,sT] ty #[.slice (some ⟨g,o,none⟩) dLen dCap,.slice (some a) sLen sCap]).run P w =
   .ok (goInt (Nat.min sLen dLen)) (w.setRow g (cur.toList.take o ++ cs ++ cur.toList.drop (o+cs.length)).toArray):=by
 have hl:=run_loadCells_list (P:=P) w a cs hsrc;have hst:=run_storeCells_at P g o t cs 0 cur w hg (by simpa using hfit) h1
 cases hq:P.info? elem with
 | none=>simp [hq] at hs
 | some i=>
  have hi:i.size=k:=by simpa [hq] using hs
  simp [Builtin.copy_,run_underlying hu,Builtin.lenOf,Builtin.firstCells,sizeOf,typeInfo,hq,hi,<- hn,hl,hst]
theorem qdE {P : Program} {w : World} {ops : Array Oper} {rest : List Oper} {o : Oper} {a : Act} {Q : Exit -> Act -> World -> Prop} (hgd : o.guard = none) (d s : Operand) (dT sT : TypeId)
  (ho:o.op = .call { callee:=.builtin .copy,args:=#[d,s],argTypes:=#[dT,sT] }) (elem:TypeId) (hu:P.underlying dT=some (.slice elem)) (z:Nat) (hsz:(P.info? elem).map (·.size)=some z)
  (N dCap sCap:Nat) (g b off:Nat) (hd:a.eval d = .slice (some ⟨g,0,none⟩) N dCap) (hs:a.eval s = .slice (some ⟨b,off,none⟩) N sCap)
  (t:TypeId) (f:Nat->Value) (hB:Blk w g t (N*z) f) (src:Nat->Value) (hsrc : ∀ j,j<N*z->w.cell? ⟨b,off+j,none⟩=some (src j))
  (h1 : ∀ j,j<N*z->(src j).oneCell'=true)
  (h : ∀ w',Blk w' g t (N*z) (qfP f 0 (N*z) src)->w.grownBy w' (some g)->wpList P ops Q rest (a.put o.dst (goInt N)) w') :
  wpList P ops Q (o :: rest) a w:=by
 obtain ⟨cur,hg,hcs,hb⟩:=hB.splice 0 (N*z) src (by omega);refine wpList_plain hgd fun K hK=>?_;have hmin:Nat.min N N=N:=Nat.min_self N
 have hrun:=qhQ P w dT sT o.type elem g 0 N dCap ⟨b,off,none⟩ N sCap cur t ((List.range (N*z)).map src) z hu hsz hg (by rw [hmin];simp) (fun j v hv=>by
  simp only [List.getElem?_map,Option.map_eq_some_iff] at hv;obtain ⟨x,hx,rfl⟩:=hv;have hlt:=(List.getElem?_eq_some_iff.1 hx).1;simp only [List.length_range] at hlt;rw [List.getElem?_range hlt] at hx;cases hx
  rw [qc5];exact hsrc j hlt) (by simp;omega) (fun v hv=>by
  simp only [List.mem_map,List.mem_range] at hv;obtain ⟨j,hj,rfl⟩:=hv
  exact h1 j hj)
 rw [hmin] at hrun;unfold Oper.wp;simp only [execOp,ho,resolve,invoke,builtin,Sem.run_bind,Sem.run_pure,List.map_toArray,List.map_cons,List.map_nil,hd,hs,hrun,Result.andThen_ok];refine hK _ _ (h _ ?_ ?_)
 ·simp only [List.append_assoc] at hb ⊢;exact hb
 ·exact qc9 _ _ _
theorem qaz.of_px {M:Nat->Prop} {w:World} {D g N:Nat} {xx:Nat->PE} {P:Nat->List Tm} {f:Nat->Value} (hB:Blk w g 33 (N*4) f) (hf : ∀ j,j<N*4->f j=px xx j) (h : ∀ i,i<N->CRx M w D (xx i) (P i)):qaz M w D g N P:=
 ⟨f,hB,fun i hi=>by rw [hf _ (by omega),hf _ (by omega),hf _ (by omega),hf _ (by omega),px0,px1,px2,px3];exact h i hi⟩
theorem qnL {w:World} {b off N:Nat} {xx:Nat->PE} (h : ∀ i,i<N->qaI w b (off+i*4) (xx i)) (j:Nat) (hj:j<N*4):w.cell? ⟨b,off+j,none⟩=some (px xx j):=by
 obtain ⟨i,r,rfl,hr⟩ : ∃ i r,j=i*4+r/\r<4:=⟨j / 4,j % 4,by omega,by omega⟩;obtain ⟨h0,h1,h2,h3⟩:=h i (by omega)
 match r,hr with
 | 0,_=>rw [Nat.add_zero,px0];exact h0
 | 1,_=>rw [px1,<- Nat.add_assoc];exact h1
 | 2,_=>rw [px2,<- Nat.add_assoc];exact h2
 | 3,_=>rw [px3,<- Nat.add_assoc];exact h3
theorem qrz (xx:Nat->PE) (j:Nat):(px xx j).oneCell'=true:=by
 unfold px
 split
 ·rfl
 ·split
  ·rfl
  ·split <;> rfl
theorem qaz.cells {M:Nat->Prop} {w:World} {D g N:Nat} {P:Nat->List Tm} (h:qaz M w D g N P) (i:Nat) (hi:i<N) : ∃ y:PE,qaI w g (i*4) y/\CRx M w D y (P i):=by
 obtain ⟨f,hB,hc⟩:=h;obtain ⟨x,e0,e1,e2,e3,hx,_⟩:=(hc i hi).pe;refine ⟨x,⟨?_,?_,?_,?_⟩,hx⟩
 ·rw [hB.cell (by omega),e0]
 ·rw [hB.cell (by omega),e1]
 ·rw [hB.cell (by omega),e2]
 ·rw [hB.cell (by omega),e3]
theorem Low.pmul {L:Nat} {l r:List Tm} (h:Low L l) (k:Low L r):Low L (pmul l r):=by
 induction l with
 | nil=>intro t ht;cases ht
 | cons s l ih=>
  intro t ht j hj hj4;simp only [Go.Proofs.YtmcfpnmoklnhoaaGreat.pmul,List.mem_append] at ht;rcases ht with h1 | h1
  ·simp only [shift,smul,List.mem_map,List.map_map] at h1;obtain ⟨u,hu,rfl⟩:=h1;show (Mo.add _ _).get j=0;simp only [qax,h s (List.mem_cons_self ..) j hj hj4];have:=k u hu j hj hj4;simp [this]
  ·exact ih (fun t ht=>h t (List.mem_cons_of_mem _ ht)) t h1 j hj hj4
theorem qof (L:Nat) (z:Int):Low L [(z,Mo.zero)]:=(qe0 z).mono (Nat.zero_le _)
theorem CRx.lowE {M:Nat->Prop} {w:World} {L:Nat} {x:PE} {l:List Tm} (h:CRx M w L x l) : ∃ T,Sim T l/\Low L T:=by
 obtain ⟨T,h1,h2⟩:=h.lowU;exact ⟨T,h1,fun t ht k hk hk4=>h2 t ht k (by have:=h.lev;omega) hk4⟩
end Go.Proofs.YtmcfpnmoklnhoaaGreat
