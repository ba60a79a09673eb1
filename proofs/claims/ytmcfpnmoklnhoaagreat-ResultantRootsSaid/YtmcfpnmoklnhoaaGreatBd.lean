/- mainvar.Join. pseudo.exactCoefs. the division of two polynomials with the same main variable: plain law. copy of a row of polynomials; products of polynomials without the variable. -/
import Derived.Test.YtmcfpnmoklnhoaaGreatBa
import Derived.Test.YtmcfpnmoklnhoaaGreatMm
import Derived.Test.YtmcfpnmoklnhoaaGreatNe
set_option linter.unusedVariables false
set_option maxRecDepth 100000
set_option maxHeartbeats 400000000
set_option linter.unusedSimpArgs false

namespace Go.Proofs.YtmcfpnmoklnhoaaGreat
open Go.RowKit

theorem qbA.low {M:Nat->Prop} {w:World} {D N cap:Nat} {a:Option Addr} {P:Nat->List Tm} (h:qbA M w D (.slice a N cap) N P) : ∃ T:Nat->List Tm,∀ i,i<N->Sim (T i) (P i)/\Low D (T i):=by
 refine qig (Q:=fun i T=>Sim T (P i)/\Low D T) [] fun i hi=>?_;obtain ⟨b,off,_,_,_,_,_,e0,e1,e2,e3,_,_,_,_,t,h1,h2,h3,h4⟩:=h.at i hi;exact ⟨_,h4,(qdA _ t h2).mono (by show t.1.toNat<=D;omega)⟩
theorem qc9 {L c:Nat} {P:Nat->List Tm} : ∀ n,(∀ i,i<n->(P i).length<=c)->(poly L n P).length<=n*c
 | 0,_=>by rw [qbD];simp
 | n+1,h=>by
  have ih:=qc9 (L:=L) n fun i hi=>h i (by omega);have h1:=h n (by omega);rw [qaf,List.length_append,Nat.add_mul,Nat.one_mul];simp only [shift,List.length_map];omega
theorem qfV {L c:Nat} {P:Nat->List Tm} : ∀ n,(∀ i,i<n->nrm (P i)<=c)->nrm (poly L n P)<=n*c
 | 0,_=>by rw [qbD];simp [nrm]
 | n+1,h=>by
  have ih:=qfV (L:=L) n fun i hi=>h i (by omega);have h1:=h n (by omega);rw [qaf,qai,qaS,Nat.add_mul,Nat.one_mul];omega
theorem qkN {n:Nat} (h:n<=4294967295):dlen n<=1:=by rw [qan,Nat.pow_one];omega
theorem qd7 {L A N:Nat} {P:Nat->List Tm} (hN:N<=4294967295) (h : ∀ i,i<N->dlen (nrm (P i))<=A):dlen (nrm (poly L N P))<=A+2:=by
 have h1:=qfV (L:=L) (c:=4294967296 ^ A) N fun i hi=>Nat.le_of_lt ((qan _ _).1 (h i hi));have h2:=qal h1;have h3:=qaD N (4294967296 ^ A);have h4:=qkN hN
 have h5:dlen (4294967296 ^ A)<=A+1:=by
  rw [qan];exact Nat.pow_lt_pow_right (by omega) (by omega)
 omega
theorem qr5 {M : Nat -> Prop} {w : World} {D N cap S A : Nat} {a : Option Addr} {P : Nat -> List Tm} (h : qbA M w D (.slice a N cap) N P) (hD : D + 1 <= 4) (hdeg : ∀ i, i < N -> Deg S (P i)) (hN : N <= S + 1) (hS : (S + 1) ^ (D + 1) <= 1099511627776) (hS2 : S <= 1000000) (hdl : ∀ i, i < N -> dlen (nrm (P i)) <= A) (hA : A + 2 <= 1099511627776) :
  PI M w ⟨(D:Int)+1,false,none,0,0,a,N,cap⟩ (poly (D+1) N P):=by
 obtain ⟨kid,hkid⟩:=qig (dfl (D+1)) (n:=N) (Q:=fun i u=>(∃ b off,a=some ⟨b,off,none⟩/\N<=cap/\cap<=maxLen/\b<w.heap.size /\ ¬ M b /\ ∃ e0 e1 e2 e3,w.cell? ⟨b,off+i*4,none⟩=some e0/\w.cell? ⟨b,off+i*4+1,none⟩=some e1/\w.cell? ⟨b,off+i*4+2,none⟩=some e2/\w.cell? ⟨b,off+i*4+3,none⟩=some e3/\RR M w (D+1) u e0 e1 e2 e3)/\qaM (D+1) u=true/\okT (D+1) u/\u.1<=D/\Sim (qaj (D+1) u) (P i)) (by
  intro i hi;obtain ⟨b,off,h1,h2,h3,h4,h5,e0,e1,e2,e3,x0,x1,x2,x3,t,g1,g2,g3,g4⟩:=h.at i hi
  exact ⟨t,⟨b,off,h1,h2,h3,h4,h5,e0,e1,e2,e3,x0,x1,x2,x3,g1⟩,g2,g1.ok,g3,g4⟩)
 have hT:qaj (D+1+1) (mkT (D+1) ((D:Int)+1) ⟨false,0,fun _=>0⟩ N kid)=poly (D+1) N (fun i=>qaj (D+1) (kid i)):=by
  rw [qcZ _ _ _ _ _ (by omega) (by omega),show ((D:Int)+1).toNat=D+1 by omega]
 refine ⟨D+1+1,mkT _ ((D:Int)+1) ⟨false,0,fun _=>0⟩ N kid,⟨rfl,by show -9223372036854775808<=(D:Int)+1/\(D:Int)+1<=9223372036854775807;omega,⟨rfl,qdc _ _ _⟩,h.1,?_⟩,.inr ⟨by omega,?_,?_,?_⟩,?_⟩
 ·rcases h.2 with ⟨h1,h0⟩ | ⟨b,off,cap',h1,h2,h3,h4,_⟩
  ·simp only [Value.slice.injEq] at h1;obtain ⟨rfl,rfl,rfl⟩:=h1;exact .inl ⟨⟨none,0,rfl,Nat.zero_le _,fun _=>rfl⟩,rfl⟩
  ·simp only [Value.slice.injEq,true_and] at h1;obtain ⟨rfl,rfl⟩:=h1;refine .inr ⟨b,off,cap,rfl,h2,h3,h4,fun i hi=>?_⟩;obtain ⟨b',off',e,_,_,_,_,hk⟩:=(hkid i hi).1;simp only [Option.some.injEq,Addr.mk.injEq,and_true] at e;obtain ⟨rfl,rfl⟩:=e;exact hk
 ·rw [hT];refine Nat.le_trans (qc9 (c:=(S+1) ^ D) N fun i hi=>?_) ?_
  ·have h1:=qg8 S (D+1) (kid i) (hkid i hi).2.1 (hkid i hi).2.2.1 (qd4 (hkid i hi).2.2.2.2 (hdeg i hi));refine Nat.le_trans h1 (Nat.pow_le_pow_right (by omega) ?_);have:=(hkid i hi).2.2.2.1;show (kid i).1.toNat<=D;omega
  ·rw [Nat.pow_succ,Nat.mul_comm] at hS;exact Nat.le_trans (Nat.mul_le_mul_right _ hN) hS
 ·rw [hT];have:=qd7 (L:=D+1) (A:=A) (N:=N) (P:=fun i=>qaj (D+1) (kid i)) (by omega) fun i hi=>Nat.le_trans (qal (qfB (hkid i hi).2.1 (hkid i hi).2.2.2.2)) (hdl i hi);omega
 ·rw [hT];intro s hs k;obtain ⟨i,hi,s',hs',rfl⟩:=qck hs;have h1:=qg9 S (D+1) (kid i) (hkid i hi).2.1 (hkid i hi).2.2.1 (qd4 (hkid i hi).2.2.2.2 (hdeg i hi)) s' hs' k;show (Mo.add s'.2 (xp (D+1) (i:Int))).get k<=_;rw [qas];rw [qat _ k _ (by omega) hD]
  split <;> omega
 ·rw [hT];exact qaC _ _ _ _ fun i hi=>(hkid i hi).2.2.2.2
theorem qcx (l:Int) (w:World):Calls Tryz.prog 106 #[.int .i64 l] w fun e w'=>e = .returned (.bool (qay l))/\w=w':=by
 by_cases h1:1<=l
 ·by_cases h2:l<=4
  ·have H:Hid (qay l=true):=by show _=_;unfold qay;simp [h1,h2]
   go_enter Tryz.func106,Tryz.ntmps106
   go_wp2;go_ret;exact ⟨by rw [H.out];rfl,rfl⟩
  ·have H:Hid (qay l=false):=by show _=_;unfold qay;simp [h2]
   go_enter Tryz.func106,Tryz.ntmps106
   go_wp2;go_ret;exact ⟨by rw [H.out];rfl,rfl⟩
 ·have H:Hid (qay l=false):=by show _=_;unfold qay;simp [h1]
  go_enter Tryz.func106,Tryz.ntmps106
  go_wp2;go_ret;exact ⟨by rw [H.out];rfl,rfl⟩
theorem CRx.down {M:Nat->Prop} {w:World} {D:Nat} {v:PE} {l T:List Tm} (h:CRx M w 4 v l) (hs:Sim T l) (hT:Low D T):CRx M w D v l:=by
 refine CR.relev h ?_
 by_cases hc:v.lv<=D
 ·exact hc
 ·exfalso;have hl:=h.lev;obtain ⟨E,b,off,P,hlv,hE4,hEL,hb0,hn0,hka,hn2,hnL,hnc,hcm,hb,hMb,hlow,hnz,hsim,hnr,hkid⟩:=h.node (by omega);obtain ⟨q,hq1,hq2⟩:=(qm4 hE4 (by omega) hlow hnz).2.resolve_left (by omega);rw [hsim q,<- hs q] at hq1;refine hq1 (hT.coef (k:=E+1) (by omega) hE4 ?_);rw [hq2];omega
theorem qd8 {M : Nat -> Prop} {D N cap S A : Nat} {a : Option Addr} {P : Nat -> List Tm} (w : World) (hM : Mb M w) (h : qbA M w D (.slice a N cap) N P) (hD : D + 1 <= 4) (hdeg : ∀ i, i < N -> Deg S (P i)) (hN : N <= S + 1) (hS : (S + 1) ^ (D + 1) <= 1099511627776) (hS2 : S <= 1000000) (hdl : ∀ i, i < N -> dlen (nrm (P i)) <= A) (hA : A + 2 <= 1099511627776) :
  Calls Tryz.prog 62 #[.slice a N cap,.int .i64 ((D:Int)+1)] w (qa8 M w (D+1) (poly (D+1) N P)):=by
 obtain ⟨T,hT⟩:=h.low;have HTL:Hid (Sim (poly (D+1) N T) (poly (D+1) N P)/\Low (D+1) (poly (D+1) N T)):=⟨qaC _ _ _ _ fun i hi=>(hT i hi).1,qgv _ _ _ (by omega) hD fun i hi=>by rw [Nat.add_sub_cancel];exact (hT i hi).2⟩;have hE:=(Ext.refl w).alloc (.cells zA 33);have hB:=Blk.of_arr w zA 33 4 rfl;have hM2:Mb (Mx M w.heap.size (w.heap.size+1)) (w.alloc (.cells zA 33)):=Mx.mb hM (by simp) (by simp);have hpi:=((qr5 h hD hdeg hN hS hS2 hdl hA).more (M':=Mx M w.heap.size (w.heap.size+1)) (Mx.more (Nat.le_refl _))).ext hE;have CT:=Lib.hid (qbV _ _ _ _ hM2 hpi)
 have hlev:qay ((D:Int)+1)=true:=by unfold qay;simp;omega
 have CTL:=Lib.hid (fun W=>qcx ((D:Int)+1) W);rw [hlev] at CTL;have HE:=Lib.hid hE;have HB:=Lib.hid hB;clear hT hE hB hM2 hpi hlev h hM hdeg hN hS hS2 hdl hA
 go_enter Tryz.func62,Tryz.ntmps62
 go_wp2_with (fail);refine (CTL.out _).mono ?_;rintro e w1 ⟨rfl,rfl⟩;go_wp2_with (fail);refine CT.out.mono ?_;rintro e w2 ⟨v,rfl,hv,he2⟩;obtain ⟨⟨q0,q1,q2,q3⟩,⟨f0,f1,f2,f3⟩,⟨r0,r1,r2,r3⟩,HF⟩:=qbR (M:=M) (w:=w) (L:=D+1) (HB.out.ext he2) (Mx.at (by omega)) (by omega) (HE.out.trans he2) (hv.down HTL.out.1 HTL.out.2) Mx.sub;clear CT CTL hv he2;go_wp2;exact bodyPost_ret (v:=.agg (peA v)) (by simp [results,Tryz.results62,go_sem,r0,r1,r2,r3]) rfl HF.out


def inB (B C:Nat):Nat:=B+(B+1)*C
def qX (C:Nat):Nat->Nat->Nat
 | 0,_=>1
 | L+1,B=>(B+2)*(qX C L (inB B C)+1)+3
def OkB (C:Nat):Nat->Nat->Prop
 | 0,B=>B<=1000000/\(B+1)*(C+1)<=1099511627776
 | L+1,B=>(inB B C<=1000000/\(inB B C+1) ^ (L+1)<=1099511627776/\(inB B C+1)*(C+1)<=1099511627776)/\OkB C L (inB B C)
theorem qjL {B B' C:Nat} (h:B<=B'):inB B C<=inB B' C:=by
 have:=Nat.mul_le_mul_right C (show B+1<=B'+1 by omega);unfold inB;omega
theorem OkB.mono {C:Nat} : ∀ {L B B':Nat},B<=B'->OkB C L B'->OkB C L B
 | 0,B,B',h,k=>⟨by have:=k.1;omega,Nat.le_trans (Nat.mul_le_mul_right _ (by omega)) k.2⟩
 | L+1,B,B',h,k=>by
  have h1:=qjL (C:=C) h;exact ⟨⟨Nat.le_trans h1 k.1.1,Nat.le_trans (Nat.pow_le_pow_left (by omega) _) k.1.2.1,Nat.le_trans (Nat.mul_le_mul_right _ (by omega)) k.1.2.2⟩,OkB.mono h1 k.2⟩
theorem CRx.lowU {M:Nat->Prop} {w:World} {L:Nat} {x:PE} {l:List Tm} (h:CRx M w L x l) : ∃ T,Sim T l /\ ∀ t ∈ T,∀ k:Nat,x.lv<k->k<=4->t.2.get k=0:=by
 obtain ⟨t,h1,h2,h3,h4⟩:=h;obtain ⟨e0,_⟩:=h1.form;simp only [Value.int.injEq,true_and] at e0;have hl:=qdA _ t h2;have h0:=qcP h2;exact ⟨_,h4,fun s hs k hk hk4=>hl s hs k (by show t.1.toNat<k;omega) hk4⟩
def ExR (M:Nat->Prop) (L:Nat) (l r:List Tm) (A:Nat) (v:PE) (ok:Bool) (w:World):Prop:=(ok=true -> ∃ q,CRx M w L v q/\Sim (pmul q r) l/\dlen (nrm q)<=A)/\(ok=false -> ¬ Dv r l)
def qcV (M:Nat->Prop) (w:World) (L:Nat) (l r:List Tm) (A:Nat) (e:Ending) (w':World):Prop:=∃ (v:PE) (ok:Bool),e = .returned (.tuple #[.agg (peA v),.bool ok])/\ExR M L l r A v ok w'/\Ext w w'
theorem qa8.exT {M:Nat->Prop} {w W:World} {L A:Nat} {l q r:List Tm} {y:PE} (h:qa8 M w L q (.returned (.agg (peA y))) W) (hs:Sim (pmul q r) l) (hA:dlen (nrm q)<=A):qcV M w L l r A (.returned (.tuple #[.agg (peA y),.bool true])) W:=by
 obtain ⟨y',e,h1,h2⟩:=h;simp only [Ending.returned.injEq,Value.agg.injEq] at e;exact ⟨y',true,by rw [e],⟨fun _=>⟨q,h1,hs,hA⟩,fun h=>(by cases h)⟩,h2⟩
theorem qa8.exF {M:Nat->Prop} {w W:World} {L L' A:Nat} {l q r:List Tm} {y:PE} (h:qa8 M w L' q (.returned (.agg (peA y))) W) (hs : ¬ Dv r l):qcV M w L l r A (.returned (.tuple #[.agg (peA y),.bool false])) W:=by
 obtain ⟨y',e,h1,h2⟩:=h;simp only [Ending.returned.injEq,Value.agg.injEq] at e;exact ⟨y',false,by rw [e],⟨fun h=>(by cases h),fun _=>hs⟩,h2⟩
theorem qak {w' wr:World} {b:Nat} {x:PE} (h:P4 wr b x) (he:w'.heap[b]? = wr.heap[b]?):P4 w' b x:=by
 have hc:=fun o=>World.cell?_of_block (w:=wr) (w':=w') (a:=⟨b,o,none⟩) he;obtain ⟨p0,p1,p2,p3⟩:=h;exact ⟨(hc 0).trans p0,(hc 1).trans p1,(hc 2).trans p2,(hc 3).trans p3⟩


abbrev qbz (l:List Tm):List Tm:=pmul l [(-1,Mo.zero)]
theorem qaL (l:List Tm) (m:Mo):qab (qbz l) m = - qab l m:=by
 rw [qbi l _ m,qbl,qao];show (-1:Int)*_=_;omega
theorem qdP (l:List Tm):nrm (qbz l)=nrm l:=by rw [qbb,qiB];show _*1=_;omega
theorem qdQ {B:Nat} {l:List Tm} (h:Deg B l):Deg B (qbz l):=fun m hm k=>h m (fun h0=>hm (by rw [qaL,h0];rfl)) k
theorem qdw {l:List Tm} (h:NN l):NN (qbz l):=fun m hm=>by rw [qaL,h m hm];rfl
theorem NN.append {l r:List Tm} (h:NN l) (k:NN r):NN (l ++ r):=fun m hm=>by rw [qae,h m hm,k m hm];rfl
theorem NN.nil:NN []:=fun _ _=>rfl
theorem NN.shift {l:List Tm} (h:NN l) {k i:Nat} : NN (shift (xp k (i:Int)) l):=fun m hm=>by
 rw [qaA];refine h _ ?_
 cases hc:(Mo.sub m (xp k (i:Int))).nn with
 | false=>rfl
 | true=>
  rw [Mo.nn_iff] at hc
  have:m.nn=true:=by
   rw [Mo.nn_iff];have g1:(Mo.sub m (xp k (i:Int))).a=m.a - (if k=1 then (i:Int) else 0):=rfl;have g2:(Mo.sub m (xp k (i:Int))).b=m.b - (if k=2 then (i:Int) else 0):=rfl;have g3:(Mo.sub m (xp k (i:Int))).c=m.c - (if k=3 then (i:Int) else 0):=rfl;have g4:(Mo.sub m (xp k (i:Int))).d=m.d - (if k=4 then (i:Int) else 0):=rfl;rw [g1,g2,g3,g4] at hc
   have f : ∀ P:Prop,[Decidable P]->(0:Int)<=(if P then (i:Int) else 0):=fun P _=>by split <;> omega
   have:=f (k=1);have:=f (k=2);have:=f (k=3);have:=f (k=4);omega
  rw [hm] at this;cases this
theorem NN.poly {L:Nat} {P:Nat->List Tm} : ∀ {n:Nat},(∀ i,i<n->NN (P i))->NN (poly L n P)
 | 0,_=>NN.nil
 | n+1,h=>by rw [qaf];exact (NN.poly fun i hi=>h i (by omega)).append (h n (by omega)).shift
theorem qds (L:Nat) (P Q:Nat->List Tm) : ∀ n,Sim (poly L n fun i=>P i ++ Q i) (poly L n P ++ poly L n Q)
 | 0=>Sim.refl _
 | n+1=>fun m=>by
  have ih:=qds L P Q n m;simp only [qaf,qae,qch] at ih ⊢;omega
theorem qcj {L:Nat} {P:Nat->List Tm} : ∀ {n:Nat},(∀ i,i<n->Sim (P i) [])->Sim (poly L n P) []
 | 0,_=>Sim.refl _
 | n+1,h=>by
  rw [qaf];exact (qcj fun i hi=>h i (by omega)).append ((h n (by omega)).shift _)
theorem qlj (L i j:Nat):Mo.add (xp L (i:Int)) (xp L (j:Int))=xp L ((j+i:Nat):Int):=Mo.ext_get fun k _ _=>by
 rw [qas]
 by_cases h:1<=L/\L<=4
 ·rw [qat _ _ _ h.1 h.2,qat _ _ _ h.1 h.2,qat _ _ _ h.1 h.2];split <;> omega
 ·have h0 : ∀ i : Int, xp L i = Mo.zero := fun i => by
   simp only [xp,Mo.zero,Mo.mk.injEq];refine ⟨if_neg (by omega),if_neg (by omega),if_neg (by omega),if_neg (by omega)⟩
  rw [h0,h0,h0]
  have h1:Mo.zero.get k=0:=by simp only [Mo.get,Mo.zero];repeat (first | rfl | split)
  omega
theorem qiw (L k:Nat) (c:List Tm) (G:Nat->List Tm) : ∀ n,Sim (pmul (shift (xp L (k:Int)) c) (poly L n G)) (poly L (k+n) fun i=>if k<=i then pmul c (G (i - k)) else [])
 | 0=>by
  rw [qbD,qdM];exact (qcj fun i hi=>by rw [if_neg (by omega)];exact Sim.refl _).symm
 | n+1=>by
  rw [qaf,show k+(n+1)=(k+n)+1 by omega,qaf,if_pos (by omega),show k+n - k=n by omega];refine (Sim.pmul_append_right _ _ _).trans ((qiw L k c G n).append ?_);refine (qaJ _ _ _).trans (((qcS _ _ _).shift _).trans ?_);rw [qdr,qlj];exact Sim.refl _
def rj (k:Nat) (c:List Tm) (G R:Nat->List Tm) (j:Nat) (i:Nat):List Tm:=if k<=i/\i<k+j then R i ++ qbz (pmul c (G (i - k))) else R i
theorem qlL (k:Nat) (c:List Tm) (G R:Nat->List Tm) (i:Nat):rj k c G R 0 i=R i:=if_neg (by omega)
theorem qr6 (k:Nat) (c:List Tm) (G R:Nat->List Tm) (j:Nat):rj k c G R j (k+j)=R (k+j):=if_neg (by omega)
theorem qlM (k:Nat) (c:List Tm) (G R:Nat->List Tm) (j i:Nat):rj k c G R (j+1) i=if i=k+j then R (k+j) ++ qbz (pmul c (G j)) else rj k c G R j i:=by
 unfold rj
 by_cases h:i=k+j
 ·subst h;rw [if_pos (by omega),if_pos rfl,show k+j - k=j by omega]
 ·rw [if_neg h]
  by_cases h2:k<=i/\i<k+j
  ·rw [if_pos h2,if_pos (by omega)]
  ·rw [if_neg h2,if_neg (by omega)]


theorem qgl (P : Program) (w : World) (dT sT ty elem : TypeId) (g o dLen dCap : Nat) (a : Addr) (sLen sCap : Nat) (cur : Array Value) (t : TypeId) (cs : List Value) (k : Nat)
  (hu:P.underlying dT=some (.slice elem)) (hs:(P.info? elem).map (·.size)=some k)
  (hg:w.heap[g]? = some (.cells cur t (0,0))) (hn:cs.length=Nat.min sLen dLen*k)
  (hsrc : ∀ j v,cs[j]? = some v->w.cell? (a.add j)=some v) (hfit:o+cs.length<=cur.size) (h1 : ∀ v ∈ cs,v.oneCell'=true) :
  (Builtin.copy_ #[dT,sT] ty #[.slice (some ⟨g,o,none⟩) dLen dCap,.slice (some a) sLen sCap]).run P w =
   .ok (goInt (Nat.min sLen dLen)) (w.setRow g (cur.toList.take o ++ cs ++ cur.toList.drop (o+cs.length)).toArray):=by
 have hl:=run_loadCells_list (P:=P) w a cs hsrc;have hst:=run_storeCells_at P g o t cs 0 cur w hg (by simpa using hfit) h1
 cases hq:P.info? elem with
 | none=>simp [hq] at hs
 | some i=>
  have hi:i.size=k:=by simpa [hq] using hs
  simp [Builtin.copy_,run_underlying hu,Builtin.lenOf,Builtin.firstCells,sizeOf,typeInfo,hq,hi,<- hn,hl,hst]
theorem qcR {P : Program} {w : World} {ops : Array Oper} {rest : List Oper} {o : Oper} {a : Act} {Q : Exit -> Act -> World -> Prop} (hgd : o.guard = none) (d s : Operand) (dT sT : TypeId)
  (ho:o.op = .call { callee:=.builtin .copy,args:=#[d,s],argTypes:=#[dT,sT] }) (elem:TypeId) (hu:P.underlying dT=some (.slice elem)) (z:Nat) (hsz:(P.info? elem).map (·.size)=some z)
  (N dCap sCap:Nat) (g b off:Nat) (hd:a.eval d = .slice (some ⟨g,0,none⟩) N dCap) (hs:a.eval s = .slice (some ⟨b,off,none⟩) N sCap)
  (t:TypeId) (f:Nat->Value) (hB:Blk w g t (N*z) f) (src:Nat->Value) (hsrc : ∀ j,j<N*z->w.cell? ⟨b,off+j,none⟩=some (src j))
  (h1 : ∀ j,j<N*z->(src j).oneCell'=true)
  (h : ∀ w',Blk w' g t (N*z) (qhg f 0 (N*z) src)->w.grownBy w' (some g)->wpList P ops Q rest (a.put o.dst (goInt N)) w') :
  wpList P ops Q (o :: rest) a w:=by
 obtain ⟨cur,hg,hcs,hb⟩:=hB.splice 0 (N*z) src (by omega);refine wpList_plain hgd fun K hK=>?_;have hmin:Nat.min N N=N:=Nat.min_self N
 have hrun:=qgl P w dT sT o.type elem g 0 N dCap ⟨b,off,none⟩ N sCap cur t ((List.range (N*z)).map src) z hu hsz hg (by rw [hmin];simp) (fun j v hv=>by
  simp only [List.getElem?_map,Option.map_eq_some_iff] at hv;obtain ⟨x,hx,rfl⟩:=hv;have hlt:=(List.getElem?_eq_some_iff.1 hx).1;simp only [List.length_range] at hlt;rw [List.getElem?_range hlt] at hx;cases hx
  rw [qb4];exact hsrc j hlt) (by simp;omega) (fun v hv=>by
  simp only [List.mem_map,List.mem_range] at hv;obtain ⟨j,hj,rfl⟩:=hv
  exact h1 j hj)
 rw [hmin] at hrun;unfold Oper.wp;simp only [execOp,ho,resolve,invoke,builtin,Sem.run_bind,Sem.run_pure,List.map_toArray,List.map_cons,List.map_nil,hd,hs,hrun,Result.andThen_ok];refine hK _ _ (h _ ?_ ?_)
 ·simp only [List.append_assoc] at hb ⊢;exact hb
 ·exact qcr _ _ _
theorem qax.of_px {M:Nat->Prop} {w:World} {D g N:Nat} {xx:Nat->PE} {P:Nat->List Tm} {f:Nat->Value} (hB:Blk w g 33 (N*4) f) (hf : ∀ j,j<N*4->f j=px xx j) (h : ∀ i,i<N->CRx M w D (xx i) (P i)):qax M w D g N P:=
 ⟨f,hB,fun i hi=>by rw [hf _ (by omega),hf _ (by omega),hf _ (by omega),hf _ (by omega),px0,px1,px2,px3];exact h i hi⟩
theorem qlT {w:World} {b off N:Nat} {xx:Nat->PE} (h : ∀ i,i<N->qaZ w b (off+i*4) (xx i)) (j:Nat) (hj:j<N*4):w.cell? ⟨b,off+j,none⟩=some (px xx j):=by
 obtain ⟨i,r,rfl,hr⟩ : ∃ i r,j=i*4+r/\r<4:=⟨j / 4,j % 4,by omega,by omega⟩;obtain ⟨h0,h1,h2,h3⟩:=h i (by omega)
 match r,hr with
 | 0,_=>rw [Nat.add_zero,px0];exact h0
 | 1,_=>rw [px1,<- Nat.add_assoc];exact h1
 | 2,_=>rw [px2,<- Nat.add_assoc];exact h2
 | 3,_=>rw [px3,<- Nat.add_assoc];exact h3
theorem qpg (xx:Nat->PE) (j:Nat):(px xx j).oneCell'=true:=by
 unfold px
 split
 ·rfl
 ·split
  ·rfl
  ·split <;> rfl
theorem qax.cells {M:Nat->Prop} {w:World} {D g N:Nat} {P:Nat->List Tm} (h:qax M w D g N P) (i:Nat) (hi:i<N) : ∃ y:PE,qaZ w g (i*4) y/\CRx M w D y (P i):=by
 obtain ⟨f,hB,hc⟩:=h;obtain ⟨x,e0,e1,e2,e3,hx,_⟩:=(hc i hi).pe;refine ⟨x,⟨?_,?_,?_,?_⟩,hx⟩
 ·rw [hB.cell (by omega),e0]
 ·rw [hB.cell (by omega),e1]
 ·rw [hB.cell (by omega),e2]
 ·rw [hB.cell (by omega),e3]
theorem Low.pmul {L:Nat} {l r:List Tm} (h:Low L l) (k:Low L r):Low L (pmul l r):=by
 induction l with
 | nil=>intro t ht;cases ht
 | cons s l ih=>
  intro t ht j hj hj4;simp only [Go.Proofs.YtmcfpnmoklnhoaaGreat.pmul,List.mem_append] at ht;rcases ht with h1 | h1
  ·simp only [shift,smul,List.mem_map,List.map_map] at h1;obtain ⟨u,hu,rfl⟩:=h1;show (Mo.add _ _).get j=0;simp only [qas,h s (List.mem_cons_self ..) j hj hj4];have:=k u hu j hj hj4;simp [this]
  ·exact ih (fun t ht=>h t (List.mem_cons_of_mem _ ht)) t h1 j hj hj4
theorem qmj (L:Nat) (z:Int):Low L [(z,Mo.zero)]:=(qdS z).mono (Nat.zero_le _)
theorem CRx.lowE {M:Nat->Prop} {w:World} {L:Nat} {x:PE} {l:List Tm} (h:CRx M w L x l) : ∃ T,Sim T l/\Low L T:=by
 obtain ⟨T,h1,h2⟩:=h.lowU;exact ⟨T,h1,fun t ht k hk hk4=>h2 t ht k (by have:=h.lev;omega) hk4⟩
end Go.Proofs.YtmcfpnmoklnhoaaGreat
