/- Plain facts on the coefficients of a power; trees that hold a coefficient. mainvar.Join of polynomials of any levels. mainvar.coefs: laws of make and copy; the state of its loops. mainvar.coefs: the walk. mainvar.Coefs. -/
import Derived.Test.YtmcfpnmoklnhoaaGreatBd
import Derived.Test.YtmcfpnmoklnhoaaGreatCb
set_option linter.unusedVariables false
set_option maxRecDepth 100000
set_option maxHeartbeats 400000000
set_option linter.unusedSimpArgs false

namespace Go.Proofs.YtmcfpnmoklnhoaaGreat
open Go.RowKit

theorem qnK {k D:Nat} (h1:1<=k) (h4:k<=4) (hD:D+1<=4) (hk:k≠D+1) (m:Mo) (i:Int):wo k (Mo.add m (xp (D+1) i))=Mo.add (wo k m) (xp (D+1) i):=by
 rw [qll h1 h4,qrJ h1 h4 (x:=xp (D+1) i) (by rw [qat _ _ _ (by omega) hD,if_neg hk])]
theorem qoS {k D:Nat} (h1:1<=k) (h4:k<=4) (hD:D+1<=4) (hk:k≠D+1) (e i:Int) (l:List Tm):ck k e (shift (xp (D+1) i) l)=shift (xp (D+1) i) (ck k e l):=by
 unfold ck lin shift;rw [List.map_map,List.map_map];apply List.map_congr_left;intro t _;simp only [Function.comp_def,ckF,qas,qat _ _ _ (show 1<=D+1 by omega) hD,if_neg hk,qnK h1 h4 hD hk,Int.add_zero]
theorem qd0 (k:Nat) (e:Int) (l r:List Tm):ck k e (l ++ r)=ck k e l ++ ck k e r:=qcy _ _ _
theorem qrk {k D:Nat} (h1:1<=k) (h4:k<=4) (hD:D+1<=4) (hk:k≠D+1) (e:Int) (N:Nat) (P:Nat->List Tm):ck k e (poly (D+1) N P)=poly (D+1) N fun i=>ck k e (P i):=by
 induction N with
 | zero=>rfl
 | succ N ih=>rw [qaf,qaf,qd0,ih,qoS h1 h4 hD hk]
theorem qfy {k:Nat} (h1:1<=k) (h4:k<=4) {l:List Tm} (h : ∀ m,qab l m≠0->m.get k=0):Sim (ck k 0 l) l:=fun m=>by
 rw [qaQ h1 h4]
 by_cases hm:m.get k=0
 ·rw [if_pos hm,qli,Mo.add_zero']
 ·rw [if_neg hm];exact (Classical.byContradiction fun hc=>hm (h m (fun e=>hc e.symm)))
theorem qkX {k:Nat} (h1:1<=k) (h4:k<=4) {e:Int} (he:e≠0) {l:List Tm} (h : ∀ m,qab l m≠0->m.get k=0):Sim (ck k e l) []:=fun m=>by
 rw [qaQ h1 h4]
 by_cases hm:m.get k=0
 ·rw [if_pos hm];refine Classical.byContradiction fun hc=>?_;have:=h _ hc;rw [qas,hm,qat _ _ _ h1 h4,if_pos rfl] at this;omega
 ·rw [if_neg hm];rfl
theorem qrj {k n:Nat} (h1:1<=k) (h4:k<=4) {l:List Tm} (h : ∀ m,qab l m≠0->m.get k<=n) {i:Nat} (hi:n<i):Sim (ck k (i:Int) l) []:=fun m=>by
 rw [qaQ h1 h4]
 by_cases hm:m.get k=0
 ·rw [if_pos hm];refine Classical.byContradiction fun hc=>?_;have:=h _ hc;rw [qas,hm,qat _ _ _ h1 h4,if_pos rfl] at this;omega
 ·rw [if_neg hm];rfl
def CfT (M:Nat->Prop) (w:World) (d E B:Nat) (e0 e1 e2 e3:Value) (S R:List Tm):Prop:=
 ∃ u:RT (d+1),RR M w (d+1) u e0 e1 e2 e3/\Sim (qaj (d+1) u) S/\Low E (qaj (d+1) u)/\(qaj (d+1) u).length<=(B+1) ^ E/\nrm (qaj (d+1) u)<=nrm R /\ ∀ s ∈ qaj (d+1) u,∀ k,s.2.get k<=B
section
variable {M M':Nat->Prop} {w w':World} {d E B:Nat} {e0 e1 e2 e3:Value} {S S' R:List Tm}
theorem CfT.kp (h:CfT M w d E B e0 e1 e2 e3 S R) (he:Kp M w w'):CfT M w' d E B e0 e1 e2 e3 S R:=by
 obtain ⟨u,h1,h2⟩:=h;exact ⟨u,RR.kp he h1,h2⟩
theorem CfT.ext (h:CfT M w d E B e0 e1 e2 e3 S R) (he:Ext w w'):CfT M w' d E B e0 e1 e2 e3 S R:=h.kp (Kp.of_ext he)
theorem CfT.more (h:CfT M w d E B e0 e1 e2 e3 S R) (hm : ∀ g,M' g->M g∨w.heap.size<=g):CfT M' w d E B e0 e1 e2 e3 S R:=by
 obtain ⟨u,h1,h2⟩:=h;exact ⟨u,RR.more hm h1,h2⟩
theorem CfT.sim (h:CfT M w d E B e0 e1 e2 e3 S R) (hs:Sim S S'):CfT M w d E B e0 e1 e2 e3 S' R:=by
 obtain ⟨u,h1,h2,h3⟩:=h;exact ⟨u,h1,h2.trans hs,h3⟩
theorem CfT.wide {E':Nat} (h:CfT M w d E B e0 e1 e2 e3 S R) (hE:E<=E'):CfT M w d E' B e0 e1 e2 e3 S R:=by
 obtain ⟨u,h1,h2,h3,h4,h5⟩:=h;exact ⟨u,h1,h2,h3.mono hE,Nat.le_trans h4 (Nat.pow_le_pow_right (by omega) hE),h5⟩
theorem CfT.zero (M:Nat->Prop) (w:World) (d E B:Nat) (R:List Tm):CfT M w d E B (.int .i64 0) (.bool false) (.slice none 0 0) (.slice none 0 0) [] R:=by
 refine ⟨mkT d 0 ⟨false,0,fun _=>0⟩ 0 (fun _=>dfl d),⟨rfl,by show -9223372036854775808<=(0:Int)/\(0:Int)<=9223372036854775807;omega,⟨rfl,qdc _ _ _⟩,Nat.zero_le _,.inl ⟨⟨none,0,rfl,Nat.zero_le _,fun _=>rfl⟩,rfl⟩⟩,?_,?_,?_,?_,?_⟩
 all_goals rw [qdG _ _ _ _ (by omega)]
 ·exact qbQ
 ·exact (qdS _).mono (Nat.zero_le _)
 ·exact Nat.pow_pos (Nat.succ_pos B)
 ·exact Nat.zero_le _
 ·intro s hs k;simp only [List.mem_cons,List.not_mem_nil,or_false] at hs;subst hs;show Mo.zero.get k<=_;rw [qbc];omega
theorem CfT.of_cr {x:PE} {l:List Tm} (h:CRx M w E x l) (hE:E<=d) (hB:Deg B l):CfT M w d E B (.int .i64 x.lv) (.bool x.b) (.slice x.a x.n x.p) (.slice x.ka x.kn x.kp) l l:=by
 have hl:=h.lev;obtain ⟨u,h1,h2,h3,h4⟩:=(h.up hE:CRx M w d x l);obtain ⟨e0,_⟩:=h1.form;simp only [Value.int.injEq,true_and] at e0
 have hle:(lev (d+1) u).toNat<=E:=by show u.1.toNat<=E;omega
 refine ⟨u,h1,h4,(qdA _ u h2).mono hle,Nat.le_trans (qg8 B _ u h2 h1.ok (qd4 h4 hB)) (Nat.pow_le_pow_right (by omega) hle),qfB h2 h4,qg9 B _ u h2 h1.ok (qd4 h4 hB)⟩
theorem CfT.pe (h:CfT M w d E B e0 e1 e2 e3 S R) : ∃ x:PE,e0 = .int .i64 x.lv/\e1 = .bool x.b/\e2 = .slice x.a x.n x.p/\e3 = .slice x.ka x.kn x.kp:=by
 obtain ⟨u,h1,_⟩:=h;exact h1.pe
end
theorem CfT.pi {M:Nat->Prop} {w:World} {d E B:Nat} {x:PE} {S R:List Tm} (h:CfT M w d E B (.int .i64 x.lv) (.bool x.b) (.slice x.a x.n x.p) (.slice x.ka x.kn x.kp) S R) (hd:d<=100) (hB:(B+1) ^ E<=1099511627776) (hB2:B<=1073741824) (hR:dlen (nrm R)<=1099511627776):PI M w x S:=by
 obtain ⟨u,h1,h2,_,h4,h5,h6⟩:=h;exact ⟨_,u,h1,.inr ⟨by omega,Nat.le_trans h4 hB,Nat.le_trans (qal h5) hR,fun s hs k=>by have:=h6 s hs k;omega⟩,h2⟩
def qa9 (M:Nat->Prop) (w:World) (d E B g N:Nat) (S R:Nat->List Tm):Prop:=∃ f,Blk w g 33 (N*4) f /\ ∀ i,i<N->CfT M w d E B (f (i*4)) (f (i*4+1)) (f (i*4+2)) (f (i*4+3)) (S i) (R i)
section
variable {M M':Nat->Prop} {w w':World} {d E B g N:Nat} {S S' R:Nat->List Tm}
theorem qa9.kp (h:qa9 M w d E B g N S R) (hg:w'.heap[g]? = w.heap[g]?) (hk:Kp M w w'):qa9 M w' d E B g N S R:=by
 obtain ⟨f,h1,h2⟩:=h;exact ⟨f,h1.of_heap hg,fun i hi=>(h2 i hi).kp hk⟩
theorem qa9.ext (h:qa9 M w d E B g N S R) (he:Ext w w'):qa9 M w' d E B g N S R:=by
 obtain ⟨f,h1,h2⟩:=h;exact ⟨f,h1.ext he,fun i hi=>(h2 i hi).ext he⟩
theorem qa9.congr (h:qa9 M w d E B g N S R) (hs : ∀ i,i<N->Sim (S i) (S' i)):qa9 M w d E B g N S' R:=by
 obtain ⟨f,h1,h2⟩:=h;exact ⟨f,h1,fun i hi=>(h2 i hi).sim (hs i hi)⟩
theorem qa9.set (h:qa9 M w d E B g N S R) (hg:M g) (j:Nat) (hj:j<N) {e0 e1 e2 e3:Value} {l:List Tm} (hc:CfT M w d E B e0 e1 e2 e3 l (R j)):qa9 M (set4 w g (j*4) e0 e1 e2 e3) d E B g N (fun i=>if i=j then l else S i) R:=by
 obtain ⟨f,h1,h2⟩:=h;refine ⟨_,h1.set4 (j*4) e0 e1 e2 e3,fun i hi=>?_⟩;have hk:Kp M w (set4 w g (j*4) e0 e1 e2 e3):=Kp.set4 hg _ _ _ _ _
 by_cases hij:i=j
 ·subst hij;rw [qdF,qdE,qdD,qdC];simp only [if_true];exact hc.kp hk
 ·rw [qbg _ _ _ _ _ _ _ (by omega),qbg _ _ _ _ _ _ _ (by omega),qbg _ _ _ _ _ _ _ (by omega),qbg _ _ _ _ _ _ _ (by omega)];simp only [if_neg hij];exact (h2 i hi).kp hk
theorem qa9.at (h:qa9 M w d E B g N S R) (j:Nat) (hj:j<N):(∃ e,w.cell? ⟨g,j*4,none⟩=some e)/\(∃ e,w.cell? ⟨g,j*4+1,none⟩=some e)/\(∃ e,w.cell? ⟨g,j*4+2,none⟩=some e)/\(∃ e,w.cell? ⟨g,j*4+3,none⟩=some e)/\(∀ o,w.frozen? ⟨g,o,none⟩=false)/\g<w.heap.size:=by
 obtain ⟨f,h1,h2⟩:=h;exact ⟨⟨_,h1.cell (by omega)⟩,⟨_,h1.cell (by omega)⟩,⟨_,h1.cell (by omega)⟩,⟨_,h1.cell (by omega)⟩,h1.frozen,h1.lt⟩
theorem qa9.cells (h:qa9 M w d E B g N S R) (i:Nat) (hi:i<N) : ∃ y:PE,qaZ w g (i*4) y/\CfT M w d E B (.int .i64 y.lv) (.bool y.b) (.slice y.a y.n y.p) (.slice y.ka y.kn y.kp) (S i) (R i):=by
 obtain ⟨f,hB,hc⟩:=h;obtain ⟨x,e0,e1,e2,e3⟩:=(hc i hi).pe;have hx:=hc i hi;rw [e0,e1,e2,e3] at hx;refine ⟨x,⟨?_,?_,?_,?_⟩,hx⟩
 ·rw [hB.cell (by omega),e0]
 ·rw [hB.cell (by omega),e1]
 ·rw [hB.cell (by omega),e2]
 ·rw [hB.cell (by omega),e3]
theorem qa9.fresh (hB:Blk w g 33 (N*4) zc4):qa9 M w d E B g N (fun _=>[]) R:=by
 refine ⟨zc4,hB,fun i hi=>?_⟩
 have h0:zc4 (i*4) = .int .i64 0:=by unfold zc4;rw [if_pos (by omega)]
 have h1:zc4 (i*4+1) = .bool false:=by unfold zc4;rw [if_neg (by omega),if_pos (by omega)]
 have h2:zc4 (i*4+2) = .slice none 0 0:=by unfold zc4;rw [if_neg (by omega),if_neg (by omega)]
 have h3:zc4 (i*4+3) = .slice none 0 0:=by unfold zc4;rw [if_neg (by omega),if_neg (by omega)]
 rw [h0,h1,h2,h3];exact CfT.zero _ _ _ _ _ _
theorem qa9.lt (h:qa9 M w d E B g N S R):g<w.heap.size:=by
 obtain ⟨f,h1,_⟩:=h;exact h1.lt
theorem qa9.node {P : Nat -> List Tm} {r : List Tm} (h : qa9 M w d E B g N S P) (hm : ∀ b, M' b -> M b ∨ w.heap.size <= b) (hg : ¬ M' g) (hE : E + 1 <= 4) (hN : N <= B + 1) (hL : N <= 1099511627776) (hr : nrm (poly (E + 1) N P) <= nrm r) :
  CfT M' w (d+1) (E+1) B (.int .i64 ((E:Int)+1)) (.bool false) (.slice none 0 0) (.slice (some ⟨g,0,none⟩) N N) (poly (E+1) N S) r:=by
 obtain ⟨f,hB,hc⟩:=h
 obtain ⟨kid,hkid⟩:=qig (dfl (d+1)) (n:=N) (Q:=fun i u=>RR M' w (d+1) u (f (i*4)) (f (i*4+1)) (f (i*4+2)) (f (i*4+3))/\Sim (qaj (d+1) u) (S i)/\Low E (qaj (d+1) u)/\(qaj (d+1) u).length<=(B+1) ^ E/\nrm (qaj (d+1) u)<=nrm (P i) /\ ∀ s ∈ qaj (d+1) u,∀ k,s.2.get k<=B) (fun i hi=>by
  obtain ⟨u,h1,h2⟩:=hc i hi
  exact ⟨u,RR.more hm h1,h2⟩)
 have hT:qaj (d+1+1) (mkT (d+1) ((E:Int)+1) ⟨false,0,fun _=>0⟩ N kid)=poly (E+1) N (fun i=>qaj (d+1) (kid i)):=by
  rw [qcZ _ _ _ _ _ (by omega) (by omega),show ((E:Int)+1).toNat=E+1 by omega]
 refine ⟨mkT _ ((E:Int)+1) ⟨false,0,fun _=>0⟩ N kid,⟨rfl,by show -9223372036854775808<=(E:Int)+1/\(E:Int)+1<=9223372036854775807;omega,⟨rfl,qdc _ _ _⟩,hL,.inr ⟨g,0,N,rfl,Nat.le_refl _,by unfold maxLen;omega,⟨hB.lt,hg⟩,fun i hi=>?_⟩⟩,?_,?_,?_,?_,?_⟩
 ·have hi':i<N:=hi;rw [Nat.zero_add];exact ⟨_,_,_,_,hB.cell (i:=i*4) (by omega),hB.cell (i:=i*4+1) (by omega),hB.cell (i:=i*4+2) (by omega),hB.cell (i:=i*4+3) (by omega),(hkid i hi).1⟩
 ·rw [hT];exact qaC _ _ _ _ fun i hi=>(hkid i hi).2.1
 ·rw [hT];exact qgv _ _ _ (by omega) hE fun i hi=>by rw [Nat.add_sub_cancel];exact (hkid i hi).2.2.1
 ·rw [hT];refine Nat.le_trans (qc9 (c:=(B+1) ^ E) N fun i hi=>(hkid i hi).2.2.2.1) ?_;rw [Nat.pow_succ,Nat.mul_comm];exact Nat.mul_le_mul_left _ hN
 ·rw [hT];refine Nat.le_trans ?_ hr;clear hr hT hB hc
  have : ∀ K,K<=N->nrm (poly (E+1) K fun i=>qaj (d+1) (kid i))<=nrm (poly (E+1) K P):=by
   intro K
   induction K with
   | zero=>intro _;exact Nat.le_refl _
   | succ K ih=>
    intro hK;rw [qaf,qaf,qai,qai,qaS,qaS];have h1:=ih (by omega);have h2:=(hkid K (by omega)).2.2.2.2.1;omega
  exact this N (Nat.le_refl _)
 ·rw [hT];intro s hs k;obtain ⟨i,hi,s',hs',rfl⟩:=qck hs;have h1:=(hkid i hi).2.2.2.2.2 s' hs' k;show (Mo.add s'.2 (xp (E+1) (i:Int))).get k<=_;rw [qas,qat _ k _ (by omega) hE]
  by_cases hk:k=E+1
  ·rw [if_pos hk,hk,(hkid i hi).2.2.1 s' hs' (E+1) (by omega) hE];omega
  ·rw [if_neg hk];omega
end


theorem qqd {M : Nat -> Prop} {w : World} {L N cap S A : Nat} {a : Option Addr} {P : Nat -> List Tm} (h : qbA M w 4 (.slice a N cap) N P) (h1 : 1 <= L) (h4 : L <= 4) (hdeg : ∀ i, i < N -> Deg S (P i)) (hN : N * (S + 1) ^ 4 <= 1099511627776) (hS2 : S + N <= 1000000) (hdl : ∀ i, i < N -> dlen (nrm (P i)) <= A) (hA : A + 2 <= 1099511627776) :
  PI M w ⟨(L:Int),false,none,0,0,a,N,cap⟩ (poly L N P):=by
 obtain ⟨kid,hkid⟩:=qig (dfl (4+1)) (n:=N) (Q:=fun i u=>(∃ b off,a=some ⟨b,off,none⟩/\N<=cap/\cap<=maxLen/\b<w.heap.size /\ ¬ M b /\ ∃ e0 e1 e2 e3,w.cell? ⟨b,off+i*4,none⟩=some e0/\w.cell? ⟨b,off+i*4+1,none⟩=some e1/\w.cell? ⟨b,off+i*4+2,none⟩=some e2/\w.cell? ⟨b,off+i*4+3,none⟩=some e3/\RR M w (4+1) u e0 e1 e2 e3)/\qaM (4+1) u=true/\okT (4+1) u/\Sim (qaj (4+1) u) (P i)) (by
  intro i hi;obtain ⟨b,off,h1,h2,h3,h4,h5,e0,e1,e2,e3,x0,x1,x2,x3,t,g1,g2,g3,g4⟩:=h.at i hi
  exact ⟨t,⟨b,off,h1,h2,h3,h4,h5,e0,e1,e2,e3,x0,x1,x2,x3,g1⟩,g2,g1.ok,g4⟩)
 have hT:qaj (4+1+1) (mkT (4+1) (L:Int) ⟨false,0,fun _=>0⟩ N kid)=poly L N (fun i=>qaj (4+1) (kid i)):=by
  rw [qcZ _ _ _ _ _ (by omega) (by omega),show (L:Int).toNat=L by omega]
 refine ⟨4+1+1,mkT _ (L:Int) ⟨false,0,fun _=>0⟩ N kid,⟨rfl,by show -9223372036854775808<=(L:Int)/\(L:Int)<=9223372036854775807;omega,⟨rfl,qdc _ _ _⟩,h.1,?_⟩,.inr ⟨by omega,?_,?_,?_⟩,?_⟩
 ·rcases h.2 with ⟨h1,h0⟩ | ⟨b,off,cap',h1,h2,h3,h4,_⟩
  ·simp only [Value.slice.injEq] at h1;obtain ⟨rfl,rfl,rfl⟩:=h1;exact .inl ⟨⟨none,0,rfl,Nat.zero_le _,fun _=>rfl⟩,rfl⟩
  ·simp only [Value.slice.injEq,true_and] at h1;obtain ⟨rfl,rfl⟩:=h1;refine .inr ⟨b,off,cap,rfl,h2,h3,h4,fun i hi=>?_⟩;obtain ⟨b',off',e,_,_,_,_,hk⟩:=(hkid i hi).1;simp only [Option.some.injEq,Addr.mk.injEq,and_true] at e;obtain ⟨rfl,rfl⟩:=e;exact hk
 ·rw [hT];refine Nat.le_trans (qc9 (c:=(S+1) ^ 4) N fun i hi=>?_) hN;refine Nat.le_trans (qg8 S (4+1) (kid i) (hkid i hi).2.1 (hkid i hi).2.2.1 (qd4 (hkid i hi).2.2.2 (hdeg i hi))) (Nat.pow_le_pow_right (by omega) ?_);have:=qcP (hkid i hi).2.1;show (kid i).1.toNat<=4;omega
 ·rw [hT];have:=qd7 (L:=L) (A:=A) (N:=N) (P:=fun i=>qaj (4+1) (kid i)) (by omega) fun i hi=>Nat.le_trans (qal (qfB (hkid i hi).2.1 (hkid i hi).2.2.2)) (hdl i hi);omega
 ·rw [hT];intro s hs k;obtain ⟨i,hi,s',hs',rfl⟩:=qck hs;have g1:=qg9 S (4+1) (kid i) (hkid i hi).2.1 (hkid i hi).2.2.1 (qd4 (hkid i hi).2.2.2 (hdeg i hi)) s' hs' k;show (Mo.add s'.2 (xp L (i:Int))).get k<=_;rw [qas,qat _ k _ h1 h4]
  split <;> omega
 ·rw [hT];exact qaC _ _ _ _ fun i hi=>(hkid i hi).2.2.2
theorem qjA {M : Nat -> Prop} {L N cap S A : Nat} {a : Option Addr} {P : Nat -> List Tm} (w : World) (hM : Mb M w) (h : qbA M w 4 (.slice a N cap) N P) (h1 : 1 <= L) (h4 : L <= 4) (hdeg : ∀ i, i < N -> Deg S (P i)) (hN : N * (S + 1) ^ 4 <= 1099511627776) (hS2 : S + N <= 1000000) (hdl : ∀ i, i < N -> dlen (nrm (P i)) <= A) (hA : A + 2 <= 1099511627776) :
  Calls Tryz.prog 62 #[.slice a N cap,.int .i64 (L:Int)] w (qa8 M w 4 (poly L N P)):=by
 have hE:=(Ext.refl w).alloc (.cells zA 33);have hB:=Blk.of_arr w zA 33 4 rfl;have hM2:Mb (Mx M w.heap.size (w.heap.size+1)) (w.alloc (.cells zA 33)):=Mx.mb hM (by simp) (by simp);have hpi:=((qqd h h1 h4 hdeg hN hS2 hdl hA).more (M':=Mx M w.heap.size (w.heap.size+1)) (Mx.more (Nat.le_refl _))).ext hE;have CT:=Lib.hid (qbV _ _ _ _ hM2 hpi)
 have hlev:qay (L:Int)=true:=by unfold qay;simp;omega
 have CTL:=Lib.hid (fun W=>qcx (L:Int) W);rw [hlev] at CTL;have HE:=Lib.hid hE;have HB:=Lib.hid hB;clear hE hB hM2 hpi hlev h hM h1 h4 hdeg hN hS2 hdl hA
 go_enter Tryz.func62,Tryz.ntmps62
 go_wp2_with (fail);refine (CTL.out _).mono ?_;rintro e w1 ⟨rfl,rfl⟩;go_wp2_with (fail);refine CT.out.mono ?_;rintro e w2 ⟨v,rfl,hv,he2⟩;obtain ⟨⟨q0,q1,q2,q3⟩,⟨f0,f1,f2,f3⟩,⟨r0,r1,r2,r3⟩,HF⟩:=qbR (M:=M) (w:=w) (L:=4) (HB.out.ext he2) (Mx.at (by omega)) (by omega) (HE.out.trans he2) hv Mx.sub;clear CT CTL hv he2;go_wp2;exact bodyPost_ret (v:=.agg (peA v)) (by simp [results,Tryz.results62,go_sem,r0,r1,r2,r3]) rfl HF.out


theorem qlv {P : Program} (w : World) {o : Oper} {a : Act} {K : Act -> World -> Prop} {Q : Exit -> Act -> World -> Prop} {E : Prop} {ops : Array Oper} (hgd : o.guard = none) (lo co : Operand) (t : TypeId) (ho : o.op = .makeSlice t lo co)
  (e:TypeId) (i:TypeInfo) (z:Value) (size:Nat) (ht:P.underlying t=some (.slice e)) (hi:P.info? e=some i) (hz:i.zero=some z) (hs:i.size=size) (kl kc:IntKind) (n:Nat)
  (hl:a.eval lo = .int kl (n:Int)) (hc:a.eval co = .int kc (n:Int)) (hb:i.bytes*n<=281474976710656) (h63:n<=maxLen)
  (h:K (a.put o.dst (.slice (some ⟨w.heap.size,0,none⟩) n n)) (w.alloc (.cells (madeCells z.cells (n*size)) e))) :
  if Region.wanted o (yielded ops a.tmps)=true then Oper.wp P o a w K Q else E:=by
 have hw:Region.wanted o (yielded ops a.tmps)=true:=by simp [Region.wanted,hgd]
 rw [if_pos hw]
 have hb':(i.bytes:Int)*(n:Int)<=281474976710656:=by
  have h:((i.bytes*n:Nat):Int)<=281474976710656:=by omega
  rwa [Int.natCast_mul] at h
 have hr:=run_make (P:=P) w t e i z ht hi hz kl kc n n (by omega) (Int.le_refl _) hb' (by unfold maxLen at h63;omega);simp only [Int.toNat_natCast,hs] at hr;unfold Oper.wp;simp [execOp,ho,hl,hc,hr,Result.andThen];exact h
theorem qbS {P : Program} (w : World) {ops : Array Oper} {rest : List Oper} {o : Oper} {a : Act} {Q : Exit -> Act -> World -> Prop} (hgd : o.guard = none) (lo co : Operand) (t : TypeId) (ho : o.op = .makeSlice t lo co)
  (e:TypeId) (i:TypeInfo) (z:Value) (size:Nat) (ht:P.underlying t=some (.slice e)) (hi:P.info? e=some i) (hz:i.zero=some z) (hs:i.size=size) (kl kc:IntKind) (L C:Int) (n:Nat)
  (hl:a.eval lo = .int kl L) (hc:a.eval co = .int kc C) (hL:L=(n:Int)) (hC:C=(n:Int)) (hb:i.bytes*n<=281474976710656) (h63:n<=maxLen)
  (h : ∀ w',Hid (w'=w.alloc (.cells (madeCells z.cells (n*size)) e))->wpList P ops Q rest (a.put o.dst (.slice (some ⟨w.heap.size,0,none⟩) n n)) w') :
  wpList P ops Q (o :: rest) a w:=by
 refine wpList_plain hgd fun K hK=>?_
 have hb':(i.bytes:Int)*(n:Int)<=281474976710656:=by
  have h:((i.bytes*n:Nat):Int)<=281474976710656:=by omega
  rwa [Int.natCast_mul] at h
 have hr:=run_make (P:=P) w t e i z ht hi hz kl kc n n (by omega) (Int.le_refl _) hb' (by unfold maxLen at h63;omega);simp only [Int.toNat_natCast,hs] at hr;subst hL;subst hC;unfold Oper.wp;simp [execOp,ho,hl,hc,hr,Result.andThen];exact hK _ _ (h _ rfl)
theorem qbJ (w:World) (N:Nat) (e:TypeId):Blk (w.alloc (.cells (madeCells (Value.agg #[.int .i64 0,.bool false,.slice none 0 0,.slice none 0 0]).cells (N*4)) e)) w.heap.size e (N*4) zc4:=
 Blk.of_alloc w _ e zc4 (N*4) (by simp [madeCells]) fun i hi=>by
  rw [<- qbL i];have hm:i % 4<4:=Nat.mod_lt _ (by decide);simp [madeCells,hi,arr,Array.getD_eq_getD_getElem?,hm,Value.cells]
theorem qex {P : Program} {w : World} {ops : Array Oper} {rest : List Oper} {o : Oper} {a : Act} {Q : Exit -> Act -> World -> Prop} (hgd : o.guard = none) (d s : Operand) (dT sT : TypeId)
  (ho:o.op = .call { callee:=.builtin .copy,args:=#[d,s],argTypes:=#[dT,sT] }) (elem:TypeId) (hu:P.underlying dT=some (.slice elem)) (z:Nat) (hsz:(P.info? elem).map (·.size)=some z)
  (N k dCap sCap:Nat) (g b off:Nat) (hd:a.eval d = .slice (some ⟨g,0,none⟩) N dCap) (hs:a.eval s = .slice (some ⟨b,off,none⟩) k sCap) (hk:k<=N)
  (t:TypeId) (f:Nat->Value) (hB:Blk w g t (N*z) f) (src:Nat->Value) (hsrc : ∀ j,j<k*z->w.cell? ⟨b,off+j,none⟩=some (src j))
  (h1 : ∀ j,j<k*z->(src j).oneCell'=true)
  (h : ∀ w',Blk w' g t (N*z) (qhg f 0 (k*z) src)->w.grownBy w' (some g)->wpList P ops Q rest (a.put o.dst (goInt k)) w') :
  wpList P ops Q (o :: rest) a w:=by
 have hkz:k*z<=N*z:=Nat.mul_le_mul_right _ hk;obtain ⟨cur,hg,hcs,hb⟩:=hB.splice 0 (k*z) src (by omega);refine wpList_plain hgd fun K hK=>?_;have hmin:Nat.min k N=k:=Nat.min_eq_left hk
 have hl:=run_loadCells_list (P:=P) w ⟨b,off,none⟩ ((List.range (k*z)).map src) (fun j v hv=>by
  simp only [List.getElem?_map,Option.map_eq_some_iff] at hv;obtain ⟨x,hx,rfl⟩:=hv;have hlt:=(List.getElem?_eq_some_iff.1 hx).1;simp only [List.length_range] at hlt;rw [List.getElem?_range hlt] at hx;cases hx
  rw [qb4];exact hsrc j hlt)
 have hst:=run_storeCells_at P g 0 t ((List.range (k*z)).map src) 0 cur w hg (by simp;omega) (fun v hv=>by
  simp only [List.mem_map,List.mem_range] at hv;obtain ⟨j,hj,rfl⟩:=hv
  exact h1 j hj)
 simp only [List.length_map,List.length_range] at hl hst
 cases hq:P.info? elem with
 | none=>simp [hq] at hsz
 | some i=>
  have hi:i.size=z:=by simpa [hq] using hsz
  unfold Oper.wp;simp only [execOp,ho,resolve,invoke,builtin,Sem.run_bind,Sem.run_pure,List.map_toArray,List.map_cons,List.map_nil,hd,hs];simp [Builtin.copy_,run_underlying hu,Builtin.lenOf,Builtin.firstCells,sizeOf,typeInfo,hq,hi,hmin,hl,hst];refine hK _ _ (h _ ?_ ?_)
  ·simpa [List.append_assoc] using hb
  ·exact qcr _ _ _
theorem ql0 {w' wr:World} {b:Nat} {x:PE} (h:P4 wr b x) (he:w'.heap[b]? = wr.heap[b]?):P4 w' b x:=by
 have hc:=fun o=>World.cell?_of_block (w:=wr) (w':=w') (a:=⟨b,o,none⟩) he;obtain ⟨p0,p1,p2,p3⟩:=h;exact ⟨(hc 0).trans p0,(hc 1).trans p1,(hc 2).trans p2,(hc 3).trans p3⟩
theorem CfT.ref {M:Nat->Prop} {w:World} {d E B:Nat} {e0 e1 e2 e3:Value} {S R R':List Tm} (h:CfT M w d E B e0 e1 e2 e3 S R) (hR:nrm R<=nrm R'):CfT M w d E B e0 e1 e2 e3 S R':=by
 obtain ⟨u,h1,h2,h3,h4,h5,h6⟩:=h;exact ⟨u,h1,h2,h3,h4,Nat.le_trans h5 hR,h6⟩
theorem qa9.of_copy {M : Nat -> Prop} {w : World} {d E B g n k : Nat} {xx : Nat -> PE} {S : Nat -> List Tm} {R : List Tm} (hB : Blk w g 33 (n * 4) (qhg zc4 0 (k * 4) (px xx))) (hk : k <= n)
  (h : ∀ i,i<k->CfT M w d E B (.int .i64 (xx i).lv) (.bool (xx i).b) (.slice (xx i).a (xx i).n (xx i).p) (.slice (xx i).ka (xx i).kn (xx i).kp) (S i) R):qa9 M w d E B g n (fun i=>if i<k then S i else []) (fun _=>R):=by
 refine ⟨_,hB,fun i hi=>?_⟩
 by_cases hik:i<k
 ·have e : ∀ r,r<4->qhg zc4 0 (k*4) (px xx) (i*4+r)=px xx (i*4+r):=fun r hr=>by unfold qhg;rw [if_pos ⟨by omega,by omega⟩,Nat.sub_zero]
  have e0:=e 0 (by omega);rw [Nat.add_zero] at e0;rw [e0,e 1 (by omega),e 2 (by omega),e 3 (by omega),px0,px1,px2,px3];simp only [if_pos hik];exact h i hik
 ·have e : ∀ r,r<4->qhg zc4 0 (k*4) (px xx) (i*4+r)=zc4 (i*4+r):=fun r hr=>by unfold qhg;rw [if_neg (by omega)]
  have e0:=e 0 (by omega);rw [Nat.add_zero] at e0
  have h0:zc4 (i*4) = .int .i64 0:=by unfold zc4;rw [if_pos (by omega)]
  have h1:zc4 (i*4+1) = .bool false:=by unfold zc4;rw [if_neg (by omega),if_pos (by omega)]
  have h2:zc4 (i*4+2) = .slice none 0 0:=by unfold zc4;rw [if_neg (by omega),if_neg (by omega)]
  have h3:zc4 (i*4+3) = .slice none 0 0:=by unfold zc4;rw [if_neg (by omega),if_neg (by omega)]
  rw [e0,e 1 (by omega),e 2 (by omega),e 3 (by omega),h0,h1,h2,h3];simp only [if_neg hik];exact CfT.zero _ _ _ _ _ _
theorem qn3 {w:World} {b off N:Nat} {xx:Nat->PE} (h : ∀ i,i<N->qaZ w b (off+i*4) (xx i)) (j:Nat) (hj:j<N*4):w.cell? ⟨b,off+j,none⟩=some (px xx j):=by
 obtain ⟨i,r,rfl,hr⟩ : ∃ i r,j=i*4+r/\r<4:=⟨j / 4,j % 4,by omega,by omega⟩;obtain ⟨h0,h1,h2,h3⟩:=h i (by omega)
 match r,hr with
 | 0,_=>rw [Nat.add_zero,px0];exact h0
 | 1,_=>rw [px1,<- Nat.add_assoc];exact h1
 | 2,_=>rw [px2,<- Nat.add_assoc];exact h2
 | 3,_=>rw [px3,<- Nat.add_assoc];exact h3
theorem qqf (xx:Nat->PE) (j:Nat):(px xx j).oneCell'=true:=by
 unfold px
 split
 ·rfl
 ·split
  ·rfl
  ·split <;> rfl
def qih (w:World) (g m k:Nat) (h:Nat->Nat) (lv:Int) (N:Nat):Prop:=∃ F,Blk w g 33 (m*4) F /\ ∀ i,i<k->F (i*4) = .int .i64 lv/\F (i*4+1) = .bool false/\F (i*4+2) = .slice none 0 0/\F (i*4+3) = .slice (some ⟨h i,0,none⟩) N N
theorem qih.ext {w w':World} {g m k:Nat} {h:Nat->Nat} {lv:Int} {N:Nat} (hr:qih w g m k h lv N) (he:Ext w w'):qih w' g m k h lv N:=by
 obtain ⟨F,h1,h2⟩:=hr;exact ⟨F,h1.ext he,h2⟩
theorem qih.heap {w w':World} {g m k:Nat} {h:Nat->Nat} {lv:Int} {N:Nat} (hr:qih w g m k h lv N) (he:w'.heap[g]? = w.heap[g]?):qih w' g m k h lv N:=by
 obtain ⟨F,h1,h2⟩:=hr;exact ⟨F,h1.of_heap he,h2⟩
theorem qih.set {w:World} {g m k:Nat} {h:Nat->Nat} {lv:Int} {N:Nat} (hr:qih w g m k h lv N):qih (set4 w g (k*4) (.int .i64 lv) (.bool false) (.slice none 0 0) (.slice (some ⟨h k,0,none⟩) N N)) g m (k+1) h lv N:=by
 obtain ⟨F,h1,h2⟩:=hr;refine ⟨_,h1.set4 _ _ _ _ _,fun i hi=>?_⟩
 by_cases hik:i=k
 ·subst hik;exact ⟨qdF _ _ _ _ _ _,qdE _ _ _ _ _ _,qdD _ _ _ _ _ _,qdC _ _ _ _ _ _⟩
 ·rw [qbg _ _ _ _ _ _ _ (by omega),qbg _ _ _ _ _ _ _ (by omega),qbg _ _ _ _ _ _ _ (by omega),qbg _ _ _ _ _ _ _ (by omega)];exact h2 i (by omega)
theorem qih.at {w:World} {g m k:Nat} {h:Nat->Nat} {lv:Int} {N:Nat} (hr:qih w g m k h lv N) (j:Nat) (hj:j<m):(∃ e,w.cell? ⟨g,j*4,none⟩=some e)/\(∃ e,w.cell? ⟨g,j*4+1,none⟩=some e)/\(∃ e,w.cell? ⟨g,j*4+2,none⟩=some e)/\(∃ e,w.cell? ⟨g,j*4+3,none⟩=some e)/\(∀ o,w.frozen? ⟨g,o,none⟩=false)/\g<w.heap.size:=by
 obtain ⟨F,h1,h2⟩:=hr;exact ⟨⟨_,h1.cell (by omega)⟩,⟨_,h1.cell (by omega)⟩,⟨_,h1.cell (by omega)⟩,⟨_,h1.cell (by omega)⟩,h1.frozen,h1.lt⟩
theorem qih.c3 {w:World} {g m k:Nat} {h:Nat->Nat} {lv:Int} {N:Nat} (hr:qih w g m k h lv N) (hk:k<=m) (j:Nat) (hj:j<k):w.cell? ⟨g,j*4+3,none⟩=some (.slice (some ⟨h j,0,none⟩) N N):=by
 obtain ⟨F,h1,h2⟩:=hr;rw [h1.cell (by omega),(h2 j hj).2.2.2]
structure CoI (M:Nat->Prop) (w:World) (L d E B n N:Nat) (P:Nat->List Tm) (x:PE) (wr:World) (c:Nat->Nat):Prop where
 sz:w.heap.size+3+n<=wr.heap.size
 ext:Ext w wr
 p4:P4 wr w.heap.size x
 row:qih wr (w.heap.size+1) (n+1) (n+1) (fun i=>w.heap.size+2+i) x.lv N
 kids : ∀ i,i<n+1->qa9 (Mx M w.heap.size (w.heap.size+3+n)) wr d E B (w.heap.size+2+i) N (fun j=>if j<c i then ck L (i:Int) (P j) else []) P
section
variable {M:Nat->Prop} {w wr w':World} {L d E B n N:Nat} {P:Nat->List Tm} {x:PE} {c:Nat->Nat}
theorem CoI.grow (h:CoI M w L d E B n N P x wr c) (he:Ext wr w'):CoI M w L d E B n N P x w' c:=
 ⟨Nat.le_trans h.sz he.size,h.ext.trans he,h.p4.ext he,h.row.ext he,fun i hi=>(h.kids i hi).ext he⟩
theorem CoI.mb (h:CoI M w L d E B n N P x wr c) (hM:Mb M w):Mb (Mx M w.heap.size (w.heap.size+3+n)) wr:=Mx.mb hM h.ext.size h.sz
theorem CoI.store (h : CoI M w L d E B n N P x wr c) (i : Nat) (hi : i < n + 1) (k : Nat) (hk : k < N) (hc : c i = k) {e0 e1 e2 e3 : Value} (hy : CfT (Mx M w.heap.size (w.heap.size + 3 + n)) wr d E B e0 e1 e2 e3 (ck L (i : Int) (P k)) (P k)) :
  CoI M w L d E B n N P x (set4 wr (w.heap.size+2+i) (k*4) e0 e1 e2 e3) (fun j=>if j=i then k+1 else c j):=by
 have hMg:Mx M w.heap.size (w.heap.size+3+n) (w.heap.size+2+i):=Mx.at (by omega);refine ⟨by rw [qaq];exact h.sz,h.ext.set4 (by omega) _ _ _ _ _,ql0 h.p4 (qag _ _ _ _ _ _ _ _ (by omega)),h.row.heap (qag _ _ _ _ _ _ _ _ (by omega)),fun j hj=>?_⟩
 by_cases hij:j=i
 ·subst hij;refine ((h.kids j hj).set hMg k hk hy).congr fun q hq=>?_;simp only [if_true]
  by_cases h1:q=k
  ·rw [if_pos h1,if_pos (by omega),h1];exact Sim.refl _
  ·rw [if_neg h1]
   by_cases h2:q<c j
   ·rw [if_pos h2,if_pos (by omega)];exact Sim.refl _
   ·rw [if_neg h2,if_neg (by omega)];exact Sim.refl _
 ·simp only [if_neg hij];exact (h.kids j hj).kp (qag _ _ _ _ _ _ _ _ (by omega)) (Kp.set4 hMg _ _ _ _ _)
theorem CoI.congr {c':Nat->Nat} (h:CoI M w L d E B n N P x wr c) (hc : ∀ i,i<n+1->c i=c' i):CoI M w L d E B n N P x wr c':=
 ⟨h.sz,h.ext,h.p4,h.row,fun i hi=>by rw [<- hc i hi];exact h.kids i hi⟩
theorem CoI.done {l : List Tm} {E2 : Nat} (h : CoI M w L d E B n N P x wr c) (hM : Mb M w) (hc : ∀ i, i < n + 1 -> c i = N) (hlv : x.lv = (E : Int) + 1) (hE : E + 1 <= 4) (hE2 : E + 1 <= E2) (hL1 : 1 <= L) (hL : L <= E) (hN : N <= B + 1) (hNL : N <= 1099511627776) (hs : Sim (poly (E + 1) N P) l) (hn : nrm (poly (E + 1) N P) <= nrm l) :
  qa9 (fun b=>M b∨b=w.heap.size+1) wr (d+1) E2 B (w.heap.size+1) (n+1) (fun i=>ck L (i:Int) l) (fun _=>l):=by
 obtain ⟨F,hB,hF⟩:=h.row;refine ⟨F,hB,fun i hi=>?_⟩;obtain ⟨f0,f1,f2,f3⟩:=hF i hi;rw [f0,f1,f2,f3,hlv];refine (((h.kids i hi).node (M':=fun b=>M b∨b=w.heap.size+1) (r:=l) (fun b hb=>.inl (hb.imp id fun hb=>by omega)) ?_ hE hN hNL hn).wide hE2).sim ?_
 ·rintro (hm | he)
  ·have:=hM _ hm;omega
  ·omega
 ·refine (qaC _ _ _ _ fun j hj=>?_).trans ((qrk (N:=N) (P:=P) hL1 (by omega) hE (by omega) (i:Int)) ▸ qa0 hs);rw [hc i hi,if_pos hj];exact Sim.refl _
end


def SCo (g o h N gz:Nat) (z:PE) (w:World):Prop:=w.cell? ⟨g,o,none⟩=some (.slice (some ⟨h,0,none⟩) N N)/\P4 w gz z
def qnv (M:Nat->Prop) (w:World) (d E B n L:Nat) (l:List Tm) (e:Ending) (w':World):Prop:=∃ g,e = .returned (.slice (some ⟨g,0,none⟩) (n+1) (n+1))/\w.heap.size<=g/\qa9 (fun b=>M b∨b=g) w' d E B g (n+1) (fun i=>ck L (i:Int) l) (fun _=>l)/\Ext w w'
def qhe (L E:Nat):Prop:=∀ (d:Nat),E<=d -> ∀ (M:Nat->Prop) (l:List Tm) (x:PE) (n B:Nat) (w:World),Mb M w->CRx M w E x l->Deg B l->(∀ m,qab l m≠0->m.get L<=n)->n+1<=1099511627776->Calls Tryz.prog 120 #[.agg (peA x),.int .i64 (L:Int),.int .i64 (n:Int)] w (qnv M w d E B n L l)
theorem qkU (L:Nat) (hL1:1<=L) (hL4:L<=4) (E:Nat) (ih : ∀ E',E'<E->qhe L E'):qhe L E:=by
 intro d hEd M l x n B w hM h hB hn hnL;obtain ⟨i0,hi,hz0,hz1,hz2⟩:=info_parts Tryz.info33;have hE0:=(Ext.refl w).alloc (.cells (peA x) 33);have hB0:=Blk.of_arr w (peA x) 33 4 rfl;obtain ⟨x0,x1,x2,x3⟩:=hB0.p4
 have hsz0:w.heap.size+1=(w.alloc (.cells (peA x) 33)).heap.size:=by simp
 have hnI:(n:Int)+1<=1099511627776:=by omega
 have hn0:(0:Int)<=(n:Int):=Int.natCast_nonneg _;generalize hW:w.alloc (.cells (peA x) 33)=W at *;have HW:=Lib.hid hW;have HE0:=Lib.hid hE0;have HP0:=Lib.hid hB0.p4;have HM:=Lib.hid hM;have HX:=Lib.hid h;have HDB:=Lib.hid hB;have HN:=Lib.hid hn;have HED:=Lib.hid hEd;clear hW hE0 hB0 hM h hB hn hEd
 go_enter Tryz.func120,Tryz.ntmps120
 go_upto_region 1 with (fail)
 rw [HW.out]
 go_wp2_with (first | (at_make;refine qbS _ rfl _ _ _ rfl 33 i0 (.agg #[.int .i64 0,.bool false,.slice none 0 0,.slice none 0 0]) 4 Tryz.underlying31 hi hz0 hz1 .i64 .i64 _ _ (n+1) rfl rfl ?c4 ?c5 ?c2 ?c3 ?_))
 case c2=>rw [hz2];omega
 case c3=>unfold maxLen;omega
 case c4=>simp
 case c5=>simp
 have hBk:=qbJ W (n+1) 33;have he1:=(Ext.refl W).alloc (.cells (madeCells (Value.agg #[.int .i64 0,.bool false,.slice none 0 0,.slice none 0 0]).cells ((n+1)*4)) 33)
 have hs1:(W.alloc (.cells (madeCells (Value.agg #[.int .i64 0,.bool false,.slice none 0 0,.slice none 0 0]).cells ((n+1)*4)) 33)).heap.size=w.heap.size+2:=by simp;omega
 intro w1 hw1;replace hw1:W.alloc (.cells (madeCells (Value.agg #[.int .i64 0,.bool false,.slice none 0 0,.slice none 0 0]).cells ((n+1)*4)) 33)=w1:=hw1.out.symm;rw [hw1] at hBk he1 hs1;rw [<- hsz0] at hBk ⊢;have HP1:=Lib.hid (HP0.out.ext he1);have HE1:=Lib.hid (HE0.out.trans he1);have HBK:=Lib.hid hBk;clear x0 x1 x2 x3 hBk he1 HP0 HE0 HW hsz0 hw1;obtain ⟨x0,x1,x2,x3⟩:=HP1.out
 by_cases h1:x.lv<L
 ·have hlow : ∀ m,qab l m≠0->m.get L=0:=fun m hm=>HX.out.lowc m hm L h1 hL4
  have HS0:Hid (∀ i,i<n+1->Sim (if i=0 then l else []) (ck L (i:Int) l)):=fun i _=>by
   by_cases hi0:i=0
   ·subst hi0;rw [if_pos rfl];exact (qfy hL1 hL4 hlow).symm
   ·rw [if_neg hi0];exact (qkX hL1 hL4 (by omega) hlow).symm
  have hK0:qa9 (fun b=>M b∨b=w.heap.size+1) w1 d E B (w.heap.size+1) (n+1) (fun _=>[]) (fun _=>l):=qa9.fresh HBK.out;obtain ⟨⟨_,k0⟩,⟨_,k1⟩,⟨_,k2⟩,⟨_,k3⟩,hfr,hg1⟩:=hK0.at 0 (by omega);have hf0:=hfr 0;have hf1:=hfr 1;have hf2:=hfr 2;have hf3:=hfr 3;rw [Nat.zero_mul] at k0 k1 k2 k3;simp only [Nat.zero_add] at k1 k2 k3;have hx:CfT (fun b=>M b∨b=w.heap.size+1) w1 d E B (.int .i64 x.lv) (.bool x.b) (.slice x.a x.n x.p) (.slice x.ka x.kn x.kp) l l:=((CfT.of_cr HX.out HED.out HDB.out).more (M':=fun b=>M b∨b=w.heap.size+1) (fun b hb=>hb.imp id fun hb=>by omega)).ext HE1.out;have HF:Hid (qnv M w d E B n L l (.returned (.slice (some ⟨w.heap.size+1,0,none⟩) (n+1) (n+1))) (set4 w1 (w.heap.size+1) (0*4) (.int .i64 x.lv) (.bool x.b) (.slice x.a x.n x.p) (.slice x.ka x.kn x.kp))):=⟨_,rfl,by omega,(hK0.set (.inr rfl) 0 (by omega) hx).congr HS0.out,HE1.out.set4 (by omega) _ _ _ _ _⟩;clear hlow hK0 hfr hx HS0;rw [Nat.zero_mul] at HF;go_wp2;exact bodyPost_ret (v:=.slice (some ⟨w.heap.size+1,0,none⟩) (n+1) (n+1)) (by simp [results,Tryz.results120,go_sem]) rfl HF.out
 ·obtain ⟨E',b,off,P,hlv,hE4,hEL,hb0,hn0',hka,hn2,hnL',hnc,hcm,hb,hMb,hlow,hnz,hsim,hnr,hkid⟩:=HX.out.node (by omega);have h1b:decide (x.lv<(L:Int))=false:=decide_eq_false h1
  by_cases h2:x.lv=L
  ·obtain rfl:L=E'+1:=by omega
   have h2b:(x.lv == ((E'+1:Nat):Int))=true:=by rw [h2];simp
   have hNn:x.kn<=n+1:=by
    obtain ⟨q,hq1,hq2⟩:=(qm4 hE4 (by omega) hlow hnz).2.resolve_left (by omega);rw [hsim q] at hq1;have:=HN.out q hq1;omega
   obtain ⟨xx,hxx⟩:=qig PE.z (n:=x.kn) (Q:=fun i y=>qaZ w b (off+i*4) y/\CRx M w E' y (P i)) fun i hi=>by
    obtain ⟨y,hy1,hy2,_⟩:=hkid i hi;exact ⟨y,hy1,hy2⟩
   have hdn:=qbp hE4 (by omega) hlow hnz (HDB.out.sim hsim.symm)
   have HC:Hid (∀ w2,Ext w w2 -> ∀ i,i<x.kn->CfT (fun b=>M b∨b=w.heap.size+1) w2 d E B (.int .i64 (xx i).lv) (.bool (xx i).b) (.slice (xx i).a (xx i).n (xx i).p) (.slice (xx i).ka (xx i).kn (xx i).kp) (P i) l):=fun w2 he i hi=>
    (((CfT.of_cr ((hxx i hi).2.up (show E'<=E by omega)) HED.out (hdn.2 i hi)).ref (Nat.le_trans (qaN (E'+1) x.kn P i hi) hnr)).more (M':=fun b=>M b∨b=w.heap.size+1) (fun b hb=>hb.imp id fun hb=>by omega)).ext he
   have HS:Hid (∀ i,i<n+1->Sim (if i<x.kn then P i else []) (ck (E'+1) (i:Int) l)):=fun i _=>(qbv hE4 hlow i).symm.trans (qa0 hsim);have hsrc : ∀ j,j<x.kn*4->w1.cell? ⟨b,off+j,none⟩=some (px xx j):=qn3 fun i hi=>((hxx i hi).1).ext hb HE1.out;have HSRC:=Lib.hid hsrc;clear hsrc hdn hxx hkid hlow hnz hsim hnr;rw [hka] at x3
   go_wp2_with (first | (refine qex rfl _ _ _ _ rfl 33 Tryz.underlying31 4 ?c1 (n+1) x.kn _ _ (w.heap.size+1) b off rfl rfl hNn 33 zc4 HBK.out (px xx) HSRC.out (fun j _=>qqf xx j) ?_))
   intro w2 hB2 hg2;have he2:Ext w w2:=HE1.out.grown hg2 (fun q hq=>by cases hq;omega);have HF:Hid (qnv M w d E B n (E'+1) l (.returned (.slice (some ⟨w.heap.size+1,0,none⟩) (n+1) (n+1))) w2):=⟨_,rfl,by omega,(qa9.of_copy hB2 hNn (HC.out w2 he2)).congr HS.out,he2⟩;clear hB2 hg2 he2 HC HS HSRC;go_wp2;exact bodyPost_ret (v:=.slice (some ⟨w.heap.size+1,0,none⟩) (n+1) (n+1)) (by simp [results,Tryz.results120,go_sem]) rfl HF.out
  ·have h2b:(x.lv == (L:Int))=false:=by simp [h2]
   obtain ⟨d',rfl⟩ : ∃ d',d=d'+1:=⟨d - 1,by have:=HED.out;omega⟩
   have hd':E'<=d':=by have:=HED.out;omega
   have hdn:=qbp hE4 (by omega) hlow hnz (HDB.out.sim hsim.symm)
   have HCALL:Hid (∀ j,j<x.kn -> ∃ y,qaZ w b (off+j*4) y /\ ∀ (M':Nat->Prop) W2,Mb M' W2->(∀ g,M' g->M g∨w.heap.size<=g)->Ext w W2->Calls Tryz.prog 120 #[.agg (peA y),.int .i64 (L:Int),.int .i64 (n:Int)] W2 (qnv M' W2 d' E' B n L (P j))):=fun j hj=>by
    obtain ⟨y,hy1,hy2,_⟩:=hkid j hj
    exact ⟨y,hy1,fun M' W2 h1 h2 h3=>ih E' (by omega) d' hd' M' (P j) y n B W2 h1 ((hy2.more h2).ext h3) (hdn.2 j hj) (fun m hm=>by
     have hk:=qgH hE4 hlow hj hm;rw [hsim _] at hk;have:=HN.out _ hk;rw [qas,qat _ _ _ (by omega) hE4,if_neg (by omega)] at this
     omega) hnL⟩
   have HDONE:Hid (∀ wr c,CoI M w L d' E' B n x.kn P x wr c->(∀ i,i<n+1->c i=x.kn)->qnv M w (d'+1) E B n L l (.returned (.slice (some ⟨w.heap.size+1,0,none⟩) (n+1) (n+1))) wr):=fun wr c hc hcn=>⟨_,rfl,by omega,hc.done HM.out hcn hlv hE4 hEL hL1 (by omega) hdn.1 hnL' hsim hnr,hc.ext⟩;have hkn:x.kn<=1099511627776:=hnL'
   have hcb:i0.bytes*x.kn<=281474976710656:=by rw [hz2];omega
   have HLR:Hid (qih w1 (w.heap.size+1) (n+1) 0 (fun i=>w.heap.size+2+i) x.lv x.kn):=⟨_,HBK.out,fun i hi=>absurd hi (Nat.not_lt_zero _)⟩;clear hdn hkid hlow hnz hsim hnr ih HX HDB HN HED hd' hnc hcm HBK hMb hb0 hn0' hEL;rw [hka] at x3;have HLV:=Lib.hid hlv;have HCB:=Lib.hid hcb;have HKA:=Lib.hid hka;clear hlv hka hcb;go_wp2
   go_loopw [18] (fun i wr=>∃ k:Nat,k<=n+1/\i = .int .i64 k/\wr.heap.size=w.heap.size+2+k/\Hid (Ext w wr)/\Hid (P4 wr w.heap.size x)/\Hid (qih wr (w.heap.size+1) (n+1) k (fun i=>w.heap.size+2+i) x.lv x.kn)/\Hid (∀ i,i<k->qa9 (Mx M w.heap.size (w.heap.size+3+n)) wr d' E' B (w.heap.size+2+i) x.kn (fun _=>[]) P)) (fun i _=>n+1 - (intOf i).toNat)
   case atStart=>exact ⟨0,Nat.zero_le _,rfl,hs1,HE1,HP1,HLR,fun i hi=>absurd hi (Nat.not_lt_zero _)⟩
   case round=>
    clear x0 x1 x2 x3 hs1 HE1 HP1 HLR;obtain ⟨k,hk,rfl,hsz,HE,HP,HLR,HK⟩:=hrel
    by_cases hlt:k<n+1
    ·have hltI:(k:Int)<(n:Int)+1:=by omega
     clear HCALL HDONE
     go_upto_region 5 with (fail)
     have hPd:P4 wr.drew w.heap.size x:=HP.out.ext (Ext.refl wr).drew;have HE2:=Lib.hid (HE.out.trans (Ext.refl wr).drew);have HLR2:=Lib.hid (HLR.out.ext (Ext.refl wr).drew);have HK2:Hid (∀ i,i<k->qa9 (Mx M w.heap.size (w.heap.size+3+n)) wr.drew d' E' B (w.heap.size+2+i) x.kn (fun _=>[]) P):=fun i hi=>(HK.out i hi).ext (Ext.refl wr).drew;have hszd:wr.drew.heap.size=w.heap.size+2+k:=hsz;clear HE HLR HK HP hsz;refine qad (fun W=>P4 W w.heap.size x) 10 (by kernel_rfl) hPd (fun hHeld=>?_);clear hPd;generalize wr.drew=wd at *;(refine tkB [0,1,2,3,4,5,6] ?_;(iterate 7 (refine tk1 (oi:=?_) (v:=?_) (by kernel_rfl) (by first | exact hSn | exact hHeld) ?_ ?_ ?_ ?_ ?_;rotate_left 2;(simp only [xgA,xgB,xgC];rfl);rfl;(intro wS hSw;obtain ⟨S1,S2,S3,S4⟩:=hSw;go_simp;try with_reducible rfl);(exact fun _ _ _ h=>h);(try simp only [Act.put,xgD,xgE,xgF])));refine tkE ?_);(refine qaa 7 (o:=?_) (by kernel_rfl) ?_ ?_;rotate_left 1;(simp only [xgA,xgB,xgC];rfl);intro K hK);refine qlv _ rfl _ _ _ rfl 33 i0 (.agg #[.int .i64 0,.bool false,.slice none 0 0,.slice none 0 0]) 4 Tryz.underlying31 hi hz0 hz1 .i64 .i64 x.kn rfl rfl HCB.out (by unfold maxLen;omega) ?_;have hBm:=qbJ wd x.kn 33;have hEm:=(Ext.refl wd).alloc (.cells (madeCells (Value.agg #[.int .i64 0,.bool false,.slice none 0 0,.slice none 0 0]).cells (x.kn*4)) 33)
     have hsm:(wd.alloc (.cells (madeCells (Value.agg #[.int .i64 0,.bool false,.slice none 0 0,.slice none 0 0]).cells (x.kn*4)) 33)).heap.size=w.heap.size+2+(k+1):=by simp;omega
     rw [hszd] at hBm;rw [show wd.heap.size=w.heap.size+2+k from hszd];generalize wd.alloc (.cells (madeCells (Value.agg #[.int .i64 0,.bool false,.slice none 0 0,.slice none 0 0]).cells (x.kn*4)) 33)=W2 at *
     try clear hSn
     have hSn:P4 W2 w.heap.size x:=hHeld.ext hEm;refine hK.out _ _ (fun _=>hSn) ?_;clear hK K;(try simp only [Act.put,xgD,xgE,xgF]);(refine tkB [8,9] ?_;(iterate 2 (refine tk1 (oi:=?_) (v:=?_) (by kernel_rfl) (by first | exact hSn | exact hHeld) ?_ ?_ ?_ ?_ ?_;rotate_left 2;(simp only [xgA,xgB,xgC];rfl);rfl;(intro wS hSw;obtain ⟨S1,S2,S3,S4⟩:=hSw;go_simp;try with_reducible rfl);(exact fun _ _ _ h=>h);(try simp only [Act.put,xgD,xgE,xgF])));refine tkE ?_);have hLR3:=HLR2.out.ext hEm;obtain ⟨⟨_,k0⟩,⟨_,k1⟩,⟨_,k2⟩,⟨_,k3⟩,hfr,hg1⟩:=hLR3.at k hlt;have hf0:=hfr (k*4);have hf1:=hfr (k*4+1);have hf2:=hfr (k*4+2);have hf3:=hfr (k*4+3);have hne : ∀ q,q≠w.heap.size+1->(set4 W2 (w.heap.size+1) (k*4) (.int .i64 x.lv) (.bool false) (.slice none 0 0) (.slice (some ⟨w.heap.size+2+k,0,none⟩) x.kn x.kn)).heap[q]? = W2.heap[q]?:=fun q hq=>qag _ _ _ _ _ _ _ _ hq;have HLR4:=Lib.hid (hLR3.set (lv:=x.lv) (N:=x.kn) (h:=fun i=>w.heap.size+2+i));have hMg:Mx M w.heap.size (w.heap.size+3+n) (w.heap.size+1):=Mx.at (by omega)
     have HK4:Hid (∀ i,i<k+1->qa9 (Mx M w.heap.size (w.heap.size+3+n)) (set4 W2 (w.heap.size+1) (k*4) (.int .i64 x.lv) (.bool false) (.slice none 0 0) (.slice (some ⟨w.heap.size+2+k,0,none⟩) x.kn x.kn)) d' E' B (w.heap.size+2+i) x.kn (fun _=>[]) P):=fun i hi=>by
      by_cases hik:i=k
      ·subst hik;exact qa9.fresh (hBm.of_heap (hne _ (by omega)))
      ·exact ((HK2.out i (by omega)).ext hEm).kp (hne _ (by omega)) (Kp.set4 hMg _ _ _ _ _)
     have HP4:Hid (P4 (set4 W2 (w.heap.size+1) (k*4) (.int .i64 x.lv) (.bool false) (.slice none 0 0) (.slice (some ⟨w.heap.size+2+k,0,none⟩) x.kn x.kn)) w.heap.size x):=ql0 hSn (hne _ (by omega));have HE4:Hid (Ext w (set4 W2 (w.heap.size+1) (k*4) (.int .i64 x.lv) (.bool false) (.slice none 0 0) (.slice (some ⟨w.heap.size+2+k,0,none⟩) x.kn x.kn))):=(HE2.out.trans hEm).set4 (by omega) _ _ _ _ _
     have hs4:(set4 W2 (w.heap.size+1) (k*4) (.int .i64 x.lv) (.bool false) (.slice none 0 0) (.slice (some ⟨w.heap.size+2+k,0,none⟩) x.kn x.kn)).heap.size=w.heap.size+2+(k+1):=by rw [qaq];exact hsm
     clear hLR3 hfr hne hMg hBm hEm hsm HLR2 HK2 HE2;((refine qaa 10 (o:=?_) (by kernel_rfl) ?_ ?_;rotate_left 1;(simp only [xgA,xgB,xgC];rfl);intro K hK);go_simp;(refine hK.out _ _ (fun h=>absurd rfl h) ?_);clear hK K;refine qac (by kernel_rfl) ?_ _);clear hHeld hSn;go_wp2
     go_roundw
     case rel=>exact ⟨k+1,by omega,by go_num,hs4,HE4,HP4,HLR4,HK4⟩
     case measure=>simp [intOf];omega
    ·have hkn1:k=n+1:=by omega
     have hge : ¬ (k:Int)<(n:Int)+1:=by omega
     have HI:Hid (CoI M w L d' E' B n x.kn P x wr (fun _=>0)):=⟨by omega,HE.out,HP.out,by rw [<- hkn1];exact hkn1 ▸ HLR.out,fun i hi=>(HK.out i (by omega)).congr fun j _=>by rw [if_neg (Nat.not_lt_zero _)];exact Sim.refl _⟩;obtain ⟨x0,x1,x2,x3⟩:=HP.out;rw [HKA.out] at x3;clear HE HP HLR HK hsz hlt HCB hkn hk hkn1;go_wp2
     go_loopw [35] (fun j wr=>∃ k:Nat,k<=x.kn/\j = .int .i64 k/\Hid (CoI M w L d' E' B n x.kn P x wr (fun _=>k))) (fun j _=>x.kn - (intOf j).toNat)
     case atStart=>exact ⟨0,Nat.zero_le _,rfl,HI⟩
     case round=>
      clear HI x0 x1 x2 x3;obtain ⟨k,hk,rfl,HI⟩:=hrel
      by_cases hlt:k<x.kn
      ·obtain ⟨y,hy,hcall⟩:=HCALL.out k hlt;obtain ⟨c0,c1,c2,c3⟩:=hy.ext hb HI.out.ext;have hbw:b<wr.heap.size:=Nat.lt_of_lt_of_le hb HI.out.ext.size;have hEa:=(Ext.refl wr).alloc (.cells (peA y) 33)
       have hltI:(k:Int)<(x.kn:Int):=by omega
       have CTR:=Lib.hid (hcall (Mx M w.heap.size (w.heap.size+3+n)) _ ((HI.out.mb HM.out).ext hEa) (Mx.more (Nat.le_refl _)) (HI.out.ext.trans hEa));have HEA:=Lib.hid hEa;clear hcall hEa hy HDONE;go_wp2_with (fail);refine CTR.out.mono ?_;rintro e w2 ⟨g2,rfl,hg2,hK2,he2⟩;have HI2:=Lib.hid (HI.out.grow (HEA.out.trans he2));have HK2:=Lib.hid hK2;have hg2':w.heap.size+3+n<=g2:=Nat.le_trans HI.out.sz (Nat.le_trans HEA.out.size hg2);clear CTR hK2 he2 hg2 HEA HI c0 c1 c2 c3 hbw;go_wp2
       go_loopw [45] (fun j wq=>∃ i:Nat,i<=n+1/\j = .int .i64 i/\Hid (CoI M w L d' E' B n x.kn P x wq (fun q=>if q<i then k+1 else k))/\Hid (qa9 (fun b=>Mx M w.heap.size (w.heap.size+3+n) b∨b=g2) wq d' E' B g2 (n+1) (fun i=>ck L (i:Int) (P k)) (fun _=>P k))) (fun j _=>n+1 - (intOf j).toNat)
       case atStart=>exact ⟨0,Nat.zero_le _,rfl,HI2.out.congr (fun i _=>by rw [if_neg (Nat.not_lt_zero _)]),HK2⟩
       case round=>
        clear HI2 HK2;obtain ⟨i,hiN,rfl,HI,HK⟩:=hrel
        by_cases hlt2:i<n+1
        ·obtain ⟨z,hz,hzc⟩:=HK.out.cells i hlt2;obtain ⟨c0,c1,c2,c3⟩:=hz;have hgw:g2<wr.heap.size:=HK.out.lt
         have hltJ:(i:Int)<(n:Int)+1:=by omega
         have hP5:=(Blk.of_arr wr (peA z) 33 4 rfl).p4;have hE5:=(Ext.refl wr).alloc (.cells (peA z) 33);have HI5:=Lib.hid (HI.out.grow hE5);have HK5:=Lib.hid (HK.out.ext hE5);have HZ5:Hid (CfT (Mx M w.heap.size (w.heap.size+3+n)) (wr.alloc (.cells (peA z) 33)) d' E' B (.int .i64 z.lv) (.bool z.b) (.slice z.a z.n z.p) (.slice z.ka z.kn z.kp) (ck L (i:Int) (P k)) (P k)):=(hzc.more (M':=Mx M w.heap.size (w.heap.size+3+n)) (fun b hb=>.inl (.inl hb))).ext hE5;clear HI HK hzc hE5
         go_upto_region 13 with (fail)
         generalize hgz:wr.heap.size=gz at *;generalize wr.alloc (.cells (peA z) 33)=W5 at *;have hS5:SCo (w.heap.size+1) (i*4+3) (w.heap.size+2+i) x.kn gz z W5.drew:=⟨(HI5.out.row.c3 (Nat.le_refl _) i hlt2),hP5⟩;have HI6:=Lib.hid (HI5.out.grow (Ext.refl W5).drew);have HK6:=Lib.hid (HK5.out.ext (Ext.refl W5).drew);have HZ6:=Lib.hid (HZ5.out.ext (Ext.refl W5).drew);clear HI5 HK5 HZ5 hP5 c0 c1 c2 c3;refine qad (SCo (w.heap.size+1) (i*4+3) (w.heap.size+2+i) x.kn gz z) 8 (by kernel_rfl) hS5 (fun hHeld=>?_);clear hS5;generalize W5.drew=wd at *
         have hkI:(k:Int)<(x.kn:Int):=by omega
         (refine tkB [0,1,2,3,4,5,6,7] ?_;(iterate 8 (refine tk1 (oi:=?_) (v:=?_) (by kernel_rfl) (by first | exact hSn | exact hHeld) ?_ ?_ ?_ ?_ ?_;rotate_left 2;(simp only [xgA,xgB,xgC];rfl);rfl;(intro wS hSw;obtain ⟨S0,S1,S2,S3,S4⟩:=hSw;go_simp;try with_reducible rfl);(exact fun _ _ _ h=>h);(try simp only [Act.put,xgD,xgE,xgF])));refine tkE ?_);obtain ⟨⟨_,k0⟩,⟨_,k1⟩,⟨_,k2⟩,⟨_,k3⟩,hfr,hg1⟩:=(HI6.out.kids i hlt2).at k hlt;have hf0:=hfr (k*4);have hf1:=hfr (k*4+1);have hf2:=hfr (k*4+2);have hf3:=hfr (k*4+3)
         have HI7:Hid (CoI M w L d' E' B n x.kn P x (set4 wd (w.heap.size+2+i) (k*4) (.int .i64 z.lv) (.bool z.b) (.slice z.a z.n z.p) (.slice z.ka z.kn z.kp)) (fun q=>if q<i+1 then k+1 else k)):=by
          refine (HI6.out.store i hlt2 k hlt (by rw [if_neg (Nat.lt_irrefl _)]) HZ6.out).congr fun q hq=>?_
          by_cases h3:q=i
          ·rw [if_pos h3,if_pos (by omega)]
          ·rw [if_neg h3]
           by_cases h4:q<i
           ·rw [if_pos h4,if_pos (by omega)]
           ·rw [if_neg h4,if_neg (by omega)]
         have HK7:Hid (qa9 (fun b=>Mx M w.heap.size (w.heap.size+3+n) b∨b=g2) (set4 wd (w.heap.size+2+i) (k*4) (.int .i64 z.lv) (.bool z.b) (.slice z.a z.n z.p) (.slice z.ka z.kn z.kp)) d' E' B g2 (n+1) (fun i=>ck L (i:Int) (P k)) (fun _=>P k)):=HK6.out.kp (qag _ _ _ _ _ _ _ _ (by omega)) (Kp.set4 (.inl (Mx.at (by omega))) _ _ _ _ _);clear hfr HI6 HK6 HZ6;((refine qaa 8 (o:=?_) (by kernel_rfl) ?_ ?_;rotate_left 1;(simp only [xgA,xgB,xgC];rfl);intro K hK);go_simp;(refine hK.out _ _ (fun h=>absurd rfl h) ?_);clear hK K;refine qac (by kernel_rfl) ?_ _);clear hHeld
         try clear hSn
         go_wp2
         go_roundw
         case rel=>exact ⟨i+1,by omega,by go_num,HI7,HK7⟩
         case measure=>simp [intOf];omega
        ·obtain rfl:i=n+1:=by omega
         have HI8:Hid (CoI M w L d' E' B n x.kn P x wr (fun _=>k+1)):=HI.out.congr fun q hq=>by rw [if_pos hq]
         clear HI HK;go_wp2
         go_roundw
         case rel=>exact ⟨k+1,by omega,by go_num,HI8⟩
         case measure=>simp [intOf];omega
      ·obtain rfl:k=x.kn:=by omega
       have HF:=Lib.hid (HDONE.out _ _ HI.out fun _ _=>rfl);clear HI HCALL HDONE;go_wp2;exact bodyPost_ret (v:=.slice (some ⟨w.heap.size+1,0,none⟩) (n+1) (n+1)) (by simp [results,Tryz.results120,go_sem]) rfl HF.out
theorem qok (L:Nat) (hL1:1<=L) (hL4:L<=4) (E:Nat):qhe L E:=by
 induction E using Nat.strongRecOn with
 | _ E ih=>exact qkU L hL1 hL4 E fun E' hE=>ih E' hE


theorem qb9 {M:Nat->Prop} {w:World} {g:Nat} (h:Mb M w) (hg:g<w.heap.size):Mb (fun b=>M b∨b=g) w:=fun b hb=>hb.elim (h b) fun e=>by rw [e];exact hg
def Mix (M:Nat->Prop) (w:World) (B g N k:Nat) (S:Nat->List Tm) (R:List Tm):Prop:=∃ f,Blk w g 33 (N*4) f /\ ∀ i,i<N->(i<k->CR M w 4 (f (i*4)) (f (i*4+1)) (f (i*4+2)) (f (i*4+3)) (S i))/\(k<=i->CfT M w 4 4 B (f (i*4)) (f (i*4+1)) (f (i*4+2)) (f (i*4+3)) (S i) R)
section
variable {M:Nat->Prop} {w w':World} {B g N k:Nat} {S:Nat->List Tm} {R:List Tm}
theorem Mix.ext (h:Mix M w B g N k S R) (he:Ext w w'):Mix M w' B g N k S R:=by
 obtain ⟨f,h1,h2⟩:=h;exact ⟨f,h1.ext he,fun i hi=>⟨fun h=>((h2 i hi).1 h).ext he,fun h=>((h2 i hi).2 h).ext he⟩⟩
theorem Mix.start (h:qa9 M w 4 4 B g N S (fun _=>R)):Mix M w B g N 0 S R:=by
 obtain ⟨f,h1,h2⟩:=h;exact ⟨f,h1,fun i hi=>⟨fun h=>absurd h (Nat.not_lt_zero _),fun _=>h2 i hi⟩⟩
theorem Mix.done (h:Mix M w B g N N S R):qax M w 4 g N S:=by
 obtain ⟨f,h1,h2⟩:=h;exact ⟨f,h1,fun i hi=>(h2 i hi).1 hi⟩
theorem Mix.at (h:Mix M w B g N k S R) (j:Nat) (hj:j<N):(∃ e,w.cell? ⟨g,j*4,none⟩=some e)/\(∃ e,w.cell? ⟨g,j*4+1,none⟩=some e)/\(∃ e,w.cell? ⟨g,j*4+2,none⟩=some e)/\(∃ e,w.cell? ⟨g,j*4+3,none⟩=some e)/\(∀ o,w.frozen? ⟨g,o,none⟩=false)/\g<w.heap.size:=by
 obtain ⟨f,h1,h2⟩:=h;exact ⟨⟨_,h1.cell (by omega)⟩,⟨_,h1.cell (by omega)⟩,⟨_,h1.cell (by omega)⟩,⟨_,h1.cell (by omega)⟩,h1.frozen,h1.lt⟩
theorem Mix.next (h:Mix M w B g N k S R) (hk:k<N) : ∃ y:PE,qaZ w g (k*4) y/\CfT M w 4 4 B (.int .i64 y.lv) (.bool y.b) (.slice y.a y.n y.p) (.slice y.ka y.kn y.kp) (S k) R:=by
 obtain ⟨f,hB,hc⟩:=h;have hx:=(hc k hk).2 (Nat.le_refl _);obtain ⟨x,e0,e1,e2,e3⟩:=hx.pe;rw [e0,e1,e2,e3] at hx;refine ⟨x,⟨?_,?_,?_,?_⟩,hx⟩
 ·rw [hB.cell (by omega),e0]
 ·rw [hB.cell (by omega),e1]
 ·rw [hB.cell (by omega),e2]
 ·rw [hB.cell (by omega),e3]
theorem Mix.set (h:Mix M w B g N k S R) (hg:M g) (hk:k<N) {e0 e1 e2 e3:Value} (hc:CR M w 4 e0 e1 e2 e3 (S k)):Mix M (set4 w g (k*4) e0 e1 e2 e3) B g N (k+1) S R:=by
 obtain ⟨f,h1,h2⟩:=h;refine ⟨_,h1.set4 (k*4) e0 e1 e2 e3,fun i hi=>?_⟩;have hkp:Kp M w (set4 w g (k*4) e0 e1 e2 e3):=Kp.set4 hg _ _ _ _ _
 by_cases hij:i=k
 ·subst hij;rw [qdF,qdE,qdD,qdC];exact ⟨fun _=>hc.kp hkp,fun h=>by omega⟩
 ·rw [qbg _ _ _ _ _ _ _ (by omega),qbg _ _ _ _ _ _ _ (by omega),qbg _ _ _ _ _ _ _ (by omega),qbg _ _ _ _ _ _ _ (by omega)];exact ⟨fun h=>((h2 i hi).1 (by omega)).kp hkp,fun h=>((h2 i hi).2 (by omega)).kp hkp⟩
end
def qk4 (M:Nat->Prop) (w:World) (l:List Tm) (L:Int) (e:Ending) (w':World):Prop:=
 ((Sim l []/\e = .returned (.slice none 0 0))∨(¬ Sim l [] /\ ¬ (1<=L/\L<=4) /\ ∃ g,e = .returned (.slice (some ⟨g,0,none⟩) 1 1)/\w.heap.size<=g/\qax (fun b=>M b∨b=g) w' 4 g 1 (fun _=>l)) ∨
  (¬ Sim l [] /\ ∃ K n g:Nat,L=K/\1<=K/\K<=4/\e = .returned (.slice (some ⟨g,0,none⟩) (n+1) (n+1))/\w.heap.size<=g/\DgR K l n/\qax (fun b=>M b∨b=g) w' 4 g (n+1) (fun i=>ck K (i:Int) l)))/\Ext w w'
theorem qeK (M:Nat->Prop) (x:PE) (l:List Tm) (L:Int) (B:Nat) (w:World) (hM:Mb M w) (h:PI M w x l) (hB:Deg B l) (hB4:(B+1) ^ 4<=1099511627776) (hB2:B+1<=1073741824) (hR:dlen (nrm l)<=1099511627776):Calls Tryz.prog 60 #[.agg (peA x),.int .i64 L] w (qk4 M w l L):=by
 have hE:=(Ext.refl w).alloc (.cells (peA x) 33);have hBx:=Blk.of_arr w (peA x) 33 4 rfl;have hM2:Mb (Mx M w.heap.size (w.heap.size+1)) (w.alloc (.cells (peA x) 33)):=Mx.mb hM (by simp) (by simp);have h2:=(h.more (M':=Mx M w.heap.size (w.heap.size+1)) (Mx.more (Nat.le_refl _))).ext hE;have HI:=Lib.hid h2;have HDB:=Lib.hid hB;have HB4:=Lib.hid hB4;have HR:=Lib.hid hR;have HB2:=Lib.hid hB2;clear h h2 hB hB4 hR hB2
 go_enter Tryz.func60,Tryz.ntmps60
 go_wp2_with (fail);refine (qbV _ x l _ hM2 HI.out).mono ?_;rintro e w1 ⟨y,rfl,hy,he1⟩;have hE1:=hE.trans he1;have hB1:=hBx.ext he1;have hM3:=hM2.ext he1;obtain ⟨⟨q0,q1,q2,q3⟩,⟨f0,f1,f2,f3⟩,⟨r0,r1,r2,r3⟩,hk,hf⟩:=qkL (M':=Mx M w.heap.size (w.heap.size+1)) (w:=w) (.int .i64 y.lv) (.bool y.b) (.slice y.a y.n y.p) (.slice y.ka y.kn y.kp) hB1 (Mx.at (by omega)) (Nat.le_refl _) hE1;have HY:=Lib.hid (hy.kp hk);have hM4:Mb (Mx M w.heap.size (w.heap.size+1)) (set4 w1 w.heap.size 0 (.int .i64 y.lv) (.bool y.b) (.slice y.a y.n y.p) (.slice y.ka y.kn y.kp)):=hM3.size hk.1;have hlt1:=hB1.lt;have hlt3:w.heap.size<(set4 w1 w.heap.size 0 (.int .i64 y.lv) (.bool y.b) (.slice y.a y.n y.p) (.slice y.ka y.kn y.kp)).heap.size:=Nat.lt_of_lt_of_le hlt1 hk.1;clear q0 q1 q2 q3;obtain ⟨q0,q1,q2,q3⟩:=hB1.p4;generalize hW:set4 w1 w.heap.size 0 (.int .i64 y.lv) (.bool y.b) (.slice y.a y.n y.p) (.slice y.ka y.kn y.kp)=W at r0 r1 r2 r3 hf HY hM4 hlt3;unfold set4 at hW;have HW:=Lib.hid hW;have HF4:=Lib.hid hf;have HM:=Lib.hid hM4;have HP:Hid (P4 W w.heap.size y):=⟨r0,r1,r2,r3⟩;clear hBx hM2 he1 hE hB1 hM3 hy HI hk hf hM4 hE1 hW hlt1 hM
 go_upto_region 2 with (fail)
 rw [HW.out];clear q0 q1 q2 q3 f0 f1 f2 f3 HW;have CZ:=Lib.hid (qbh _ y l W HM.out HY.out.pi);go_wp2_with (fail);refine CZ.out.mono ?_;rintro e w2 ⟨bz,rfl,hbz,he2⟩;have HE2:=Lib.hid (HF4.out.trans he2);have HBZ:=Lib.hid hbz;have HY2:=Lib.hid (HY.out.ext he2);have HP2:=Lib.hid (HP.out.ext he2);have HM2:=Lib.hid (HM.out.ext he2);clear hbz he2 CZ HF4 HY HP r0 r1 r2 r3 HM hlt3
 cases bz with
 | true=>
  have HF:Hid (qk4 M w l L (.returned (.slice none 0 0)) w2):=⟨.inl ⟨HBZ.out.1 rfl,rfl⟩,HE2.out⟩;clear HBZ HE2 HY2 HP2;go_wp2;exact bodyPost_ret (v:=.slice none 0 0) (by simp [results,Tryz.results60,go_sem]) rfl HF.out
 | false=>
  have HZ:Hid (¬ Sim l []):=fun hs=>by have:=HBZ.out.2 hs;cases this
  clear HBZ;have CL:=Lib.hid (qcx L w2);go_wp2_with (fail);refine CL.out.mono ?_;rintro e w3 ⟨rfl,rfl⟩
  by_cases hl:1<=L/\L<=4
  ·have hlb:qay L=true:=by unfold qay;simp [hl]
   obtain ⟨J,rfl⟩ : ∃ J:Nat,L=J:=⟨L.toNat,by omega⟩;have HK:Hid (1<=J/\J<=4):=⟨by omega,by omega⟩;have hltb:=World.block_lt_of_cell? _ _ HP2.out.1;have HY3:=Lib.hid (HY2.out.ext (Ext.refl w2).drew);have HM3:=Lib.hid (HM2.out.ext (Ext.refl w2).drew);have HE3:=Lib.hid (HE2.out.trans (Ext.refl w2).drew);have hP3:=HP2.out.ext (Ext.refl w2).drew;clear hl CL HE2 HP2 HY2 HM2
   go_upto_region 6 with (fail)
   refine qad (fun W=>P4 W w.heap.size y) 7 (by kernel_rfl) hP3 (fun hHeld=>?_);clear hP3;generalize w2.drew=wd at *;(refine tkB [0,1,2,3] ?_;(iterate 4 (refine tk1 (oi:=?_) (v:=?_) (by kernel_rfl) (by first | exact hSn | exact hHeld) ?_ ?_ ?_ ?_ ?_;rotate_left 2;(simp only [xgA,xgB,xgC];rfl);rfl;(intro wS hSw;obtain ⟨S1,S2,S3,S4⟩:=hSw;go_simp;try with_reducible rfl);(exact fun _ _ _ h=>h);(try simp only [Act.put,xgD,xgE,xgF])));refine tkE ?_);((refine qaa 4 (o:=?_) (by kernel_rfl) ?_ ?_;rotate_left 1;(simp only [xgA,xgB,xgC];rfl);intro K hK);go_simp;(refine (qhG J HK.out.1 HK.out.2 4 _ l y _ HY3.out).mono ?_);rintro e_ w4 ⟨n,rfl,hn,hnL,e4⟩;go_wp2_with (fail);(try clear hSn);(have hSn:=hHeld.ext e4);(refine hK.out _ _ (fun _=>hSn) ?_);clear hK K;(try simp only [Act.put,xgD,xgE,xgF]))
   have hnB:n<=B:=by
    rcases hn.2 with h0 | ⟨m,hm,hg⟩
    ·omega
    ·have:=HDB.out m hm J;omega
   have hB2':=HB2.out;have HDG:=Lib.hid hn
   have hnI:(n:Int)+1<=1099511627776:=by omega
   ((refine qaa 5 (o:=?_) (by kernel_rfl) ?_ ?_;rotate_left 1;(simp only [xgA,xgB,xgC];rfl);intro K hK);go_simp;(refine (qok J HK.out.1 HK.out.2 4 4 (Nat.le_refl _) _ l y n B _ (HM3.out.ext e4) (HY3.out.ext e4) HDB.out HDG.out.1 (by omega)).mono ?_);rintro e_ w5 ⟨g,rfl,hg,hkd,e5⟩;go_wp2_with (fail);(try clear hSn);(have hSn:=hHeld.ext (e4.trans e5));(refine hK.out _ _ (fun _=>hSn) ?_);clear hK K;(try simp only [Act.put,xgD,xgE,xgF]));(refine tkB [6] ?_;(iterate 1 (refine tk1 (oi:=?_) (v:=?_) (by kernel_rfl) (by first | exact hSn | exact hHeld) ?_ ?_ ?_ ?_ ?_;rotate_left 2;(simp only [xgA,xgB,xgC];rfl);rfl;(intro wS hSw;obtain ⟨S1,S2,S3,S4⟩:=hSw;go_simp;try with_reducible rfl);(exact fun _ _ _ h=>h);(try simp only [Act.put,xgD,xgE,xgF])));refine tkE ?_);refine qac (by kernel_rfl) ?_ _;have HX:Hid (Mix (fun b=>Mx M w.heap.size (w.heap.size+1) b∨b=g) w5 B g (n+1) 0 (fun i=>ck J (i:Int) l) l):=Mix.start hkd;have HE5:=Lib.hid (HE3.out.trans (e4.trans e5));have hgw:w.heap.size<g:=Nat.lt_of_lt_of_le (HM3.out.ext e4 _ (Mx.at ⟨Nat.le_refl _,Nat.lt_succ_self _⟩)) hg;have HMB:=Lib.hid (qb9 ((HM3.out.ext e4).ext e5) hkd.lt);clear hHeld hSn hkd e4 e5 hg hn hnL HY3 HM3 HE3 HDB hnB hltb hlb;go_wp2
   go_loopw [26] (fun i wr=>∃ k:Nat,k<=n+1/\i = .int .i64 k/\Hid (Mix (fun b=>Mx M w.heap.size (w.heap.size+1) b∨b=g) wr B g (n+1) k (fun i=>ck J (i:Int) l) l)/\Hid (Ext w wr)/\Hid (Mb (fun b=>Mx M w.heap.size (w.heap.size+1) b∨b=g) wr)) (fun i _=>n+1 - (intOf i).toNat)
   case atStart=>exact ⟨0,Nat.zero_le _,rfl,HX,HE5,HMB⟩
   case round=>
    clear HX HE5 HMB;obtain ⟨k,hk,rfl,HX,HE,HMB⟩:=hrel
    by_cases hlt:k<n+1
    ·have hltI:(k:Int)<(n:Int)+1:=by omega
     have HLT:=Lib.hid hlt;obtain ⟨z,⟨c0,c1,c2,c3⟩,hz⟩:=HX.out.next hlt;have hgr:g<wr.heap.size:=(HX.out.at k hlt).2.2.2.2.2;have CN:=Lib.hid (qbV _ z _ wr HMB.out (hz.pi (by omega) HB4.out (by omega) HR.out));clear hz;go_wp2_with (fail);refine CN.out.mono ?_;rintro e w6 ⟨v,rfl,hv,he6⟩;have hX6:=HX.out.ext he6;obtain ⟨⟨_,k0⟩,⟨_,k1⟩,⟨_,k2⟩,⟨_,k3⟩,hfr,hg6⟩:=hX6.at k hlt;have hf0:=hfr (k*4);have hf1:=hfr (k*4+1);have hf2:=hfr (k*4+2);have hf3:=hfr (k*4+3);have HX7:=Lib.hid (hX6.set (.inr rfl) hlt hv);have HE7:=Lib.hid ((HE.out.trans he6).set4 (g:=g) (by omega) (k*4) (.int .i64 v.lv) (.bool v.b) (.slice v.a v.n v.p) (.slice v.ka v.kn v.kp));have HM7:Hid (Mb (fun b=>Mx M w.heap.size (w.heap.size+1) b∨b=g) (set4 w6 g (k*4) (.int .i64 v.lv) (.bool v.b) (.slice v.a v.n v.p) (.slice v.ka v.kn v.kp))):=(HMB.out.ext he6).size (by rw [qaq];exact Nat.le_refl _);clear hX6 hfr hv he6 CN HX HE HMB c0 c1 c2 c3 hgr;go_wp2
     go_roundw
     case rel=>exact ⟨k+1,HLT.out,by go_num,HX7,HE7,HM7⟩
     case measure=>have:=HLT.out;simp [intOf];omega
    ·have hkn:k=n+1:=by omega
     have hge : ¬ (k:Int)<(n:Int)+1:=by omega
     have HF:Hid (qk4 M w l J (.returned (.slice (some ⟨g,0,none⟩) (n+1) (n+1))) wr):=by
      refine ⟨.inr (.inr ⟨HZ.out,J,n,g,rfl,HK.out.1,HK.out.2,rfl,by omega,HDG.out,?_⟩),HE.out⟩;have h5:=HX.out;rw [hkn] at h5;exact h5.done.more fun b hb=>hb.elim (fun h=>.inl (.inl (.inl h))) (fun h=>.inl (.inr h))
     clear HX HE HMB hkn;go_wp2;exact bodyPost_ret (v:=.slice (some ⟨g,0,none⟩) (n+1) (n+1)) (by simp [results,Tryz.results60,go_sem]) rfl HF.out
  ·have hlb:qay L=false:=by unfold qay;simp only [decide_eq_false_iff_not];exact hl
   have hltb:=World.block_lt_of_cell? _ _ HP2.out.1;obtain ⟨r0,r1,r2,r3⟩:=HP2.out;have hBk:=Blk.of_arr w2 (peA y) 33 4 rfl;have hEk:=(Ext.refl w2).alloc (.cells (peA y) 33)
   have HF:Hid (qk4 M w l L (.returned (.slice (some ⟨w2.heap.size,0,none⟩) 1 1)) (w2.alloc (.cells (peA y) 33))):=by
    refine ⟨.inr (.inl ⟨HZ.out,hl,_,rfl,HE2.out.size,?_⟩),HE2.out.trans hEk⟩;refine ⟨_,hBk,fun i hi=>?_⟩
    obtain rfl:i=0:=by omega
    exact ((HY2.out.more (M':=fun b=>M b∨b=w2.heap.size) (fun b hb=>hb.elim (fun h=>.inl (.inl h)) (fun h=>.inr (by omega)))).ext hEk:CRx (fun b=>M b∨b=w2.heap.size) _ 4 y l)
   clear hBk hEk HE2 HY2 HP2 hl HZ CL HM2;go_wp2;exact bodyPost_ret (v:=.slice (some ⟨w2.heap.size,0,none⟩) 1 1) (by simp [results,Tryz.results60,go_sem]) rfl HF.out
end Go.Proofs.YtmcfpnmoklnhoaaGreat
