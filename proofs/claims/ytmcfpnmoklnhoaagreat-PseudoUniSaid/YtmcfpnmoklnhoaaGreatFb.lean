/- cylinderref22.Build again: a polynomial of n nodes has degrees below n. PseudoForms: plain facts. PseudoForms: the walk. -/
import Derived.Test.YtmcfpnmoklnhoaaGreatMi
import Derived.Test.YtmcfpnmoklnhoaaGreatBj
import Derived.Test.YtmcfpnmoklnhoaaGreatEc
import Derived.Test.YtmcfpnmoklnhoaaGreatBh
set_option linter.unusedVariables false
set_option linter.unusedSimpArgs false

namespace Go.Proofs.YtmcfpnmoklnhoaaGreat
open Go.RowKit

def CnL (c:Nat) (l:List Tm):Prop:=∀ s ∈ l,s.1≠0->1<=c /\ ∀ k,s.2.get k<=(c:Int) - 1
theorem CnL.le {c c':Nat} {l:List Tm} (h:CnL c l) (hc:c<=c'):CnL c' l:=fun s hs h0=>⟨by have:=(h s hs h0).1;omega,fun k=>by have:=(h s hs h0).2 k;omega⟩
theorem CnL.deg {c:Nat} {l:List Tm} (h:CnL (c+1) l):Deg c l:=fun m hm k=>by
 refine Classical.byContradiction fun hc=>hm ?_
 have : ∀ l':List Tm,(∀ s ∈ l',s.1≠0->s.2≠m)->qab l' m=0:=by
  intro l'
  induction l' with
  | nil=>intro _;rfl
  | cons s l' ih=>
   intro hh;show (if s.2=m then s.1 else 0)+qab l' m=0;rw [ih fun t ht=>hh t (List.mem_cons_of_mem _ ht)]
   by_cases e:s.2=m
   ·rw [if_pos e];have:s.1=0:=Classical.byContradiction fun h0=>hh s List.mem_cons_self h0 e;omega
   ·rw [if_neg e];rfl
 refine this l fun s hs h0 e=>?_;have:=(h s hs h0).2 k;rw [e] at this;omega
def qpL (D k n1 n':Nat) (P:Nat->List Tm):Prop:=∃ cs:Nat->Nat,(∀ i,i<k->CnL (cs i) (P i)/\(1<=cs i->i<=qg2 cs i))/\qg2 cs k+n'=n1/\(1<=n'->D≠0->k<=qg2 cs k)
theorem qpL.start (D n1:Nat) (P:Nat->List Tm):qpL D 0 n1 n1 P:=⟨fun _=>0,fun i hi=>absurd hi (Nat.not_lt_zero _),Nat.zero_add _,fun _ _=>Nat.le_refl _⟩
theorem qho {f g:Nat->Nat} : ∀ n,(∀ i,i<n->f i=g i)->qg2 f n=qg2 g n
 | 0,_=>rfl
 | n+1,h=>by
  show qg2 f n+f n=qg2 g n+g n;rw [qho n fun i hi=>h i (by omega),h n (by omega)]
theorem qpL.congr {D k n1 n':Nat} {P Q:Nat->List Tm} (h:qpL D k n1 n' P) (hp : ∀ i,i<k->P i=Q i):qpL D k n1 n' Q:=by
 obtain ⟨cs,h1,h2⟩:=h;exact ⟨cs,fun i hi=>by rw [<- hp i hi];exact h1 i hi,h2⟩
theorem qpL.next {D k n1 n' n3:Nat} {P:Nat->List Tm} {l:List Tm} (h:qpL D k n1 n' P) (hc:n3<=n'/\CnL (n' - n3) l/\(n'≠0->D≠0->n3<n')/\(D=0->n3=n')):qpL D (k+1) n1 n3 (qcp P k l):=by
 obtain ⟨cs,h1,h2,h3⟩:=h;obtain ⟨c1,c2,c3,c4⟩:=hc;have hs : ∀ i,i<=k->qg2 (qcp cs k (n' - n3)) i=qg2 cs i:=fun i hi=>qho i fun j hj=>qaQ _ _ _ _ (by omega)
 have hk:qg2 (qcp cs k (n' - n3)) (k+1)=qg2 cs k+(n' - n3):=by
  show qg2 (qcp cs k (n' - n3)) k+qcp cs k (n' - n3) k=_;rw [hs k (Nat.le_refl k),qaL]
 refine ⟨qcp cs k (n' - n3),fun i hi=>?_,by rw [hk];omega,fun h5 h6=>?_⟩
 ·by_cases hik:i=k
  ·subst hik;rw [qaL,qaL,hs i (Nat.le_refl i)];refine ⟨c2,fun h5=>h3 (by omega) fun h6=>?_⟩;have:=c4 h6;omega
  ·rw [qaQ _ _ _ _ (by omega),qaQ _ _ _ _ (by omega),hs i (by omega)];exact h1 i (by omega)
 ·rw [hk];have:=h3 (by omega) h6;have:=c3 (by omega) h6;omega
theorem qs6 (f:Nat->Nat) {i k:Nat} (h:i<=k):qg2 f i<=qg2 f k:=by
 induction k with
 | zero => have : i = 0 := by omega
           subst this;exact Nat.le_refl _
 | succ k ih=>
  by_cases e:i=k+1
  ·subst e;exact Nat.le_refl _
  ·show _<=qg2 f k+f k;have:=ih (by omega);omega
theorem ql8 (d:Nat) (r:qcM) (n:Nat) (kid:Nat->RT d) (lv:Int) (h0:lv<=0):qak (d+1) (mkT d lv r n kid) = [(r.val,Mo.zero)]:=qaK h0
theorem qnj (d:Nat) (r:qcM) (n:Nat) (kid:Nat->RT d) (lv:Int) (h4:4<lv):qak (d+1) (mkT d lv r n kid) = []:=by
 show (if lv<=0 then _ else if 4<lv then [] else _)=_;rw [if_neg (by omega),if_pos h4]
theorem qpL.node {D k n1 n':Nat} {lv:Int} {r:qcM} {ts:Nat->RT (D+1)} (h:qpL D k n1 n' (fun i=>qak (D+1) (ts i))):n'<=n1+1/\CnL (n1+1 - n') (qak (D+1+1) (mkT (D+1) lv r k ts))/\(n1+1≠0->D+1≠0->n'<n1+1)/\(D+1=0->n'=n1+1):=by
 obtain ⟨cs,h1,h2,h3⟩:=h;refine ⟨by omega,?_,fun _ _=>by omega,fun h=>by omega⟩
 by_cases h0:lv<=0
 ·rw [ql8 _ _ _ _ _ h0];intro s hs _;simp only [List.mem_cons,List.not_mem_nil,or_false] at hs;subst hs;refine ⟨by omega,fun q=>?_⟩;show Mo.zero.get q<=_;rw [qbl];omega
 by_cases h4:4<lv
 ·rw [qnj _ _ _ _ _ h4];intro s hs;cases hs
 ·rw [qde _ _ _ _ _ (by omega) (by omega)];intro s hs hs0;obtain ⟨i,hi,t,ht,rfl⟩:=qck hs;obtain ⟨c1,c2⟩:=h1 i hi;obtain ⟨d1,d2⟩:=c1 t ht hs0;have hi2:=c2 d1;have hm:=qs6 cs (show i+1<=k by omega);have hm2:qg2 cs (i+1)=qg2 cs i+cs i:=rfl;refine ⟨by omega,fun q=>?_⟩;have hd:=d2 q;show (Mo.add t.2 (xp lv.toNat (i:Int))).get q<=_;rw [qax,qaB _ _ _ (by omega) (by omega)]
  split <;> omega
def qxo (M:Nat->Prop) (w:World) (D n:Nat) (e:Ending) (w':World):Prop:=∃ (x:PE) (u:Value) (n':Nat) (L' C' K':Nat->Int) (t:RT (D+1)),(n'<=n/\CnL (n - n') (qak (D+1) t)/\(n≠0->D≠0->n'<n)/\(D=0->n'=n))/\e = .returned (.tuple #[.agg (peA x),u])/\RR M w' (D+1) t (.int .i64 x.lv) (.bool x.b) (.slice x.a x.n x.p) (.slice x.ka x.kn x.kp)/\Sml (D+1) t/\qdq M w' u n' L' C' K'/\Ext w w'
def BT2 (n:Nat) (M:Nat->Prop) (w:World) (x:PE) (l:List Tm):Prop:=BT M w x l/\CnL n l


theorem BT2.ext {n:Nat} {M:Nat->Prop} {w w':World} {x:PE} {l:List Tm} (h:BT2 n M w x l) (he:Ext w w'):BT2 n M w' x l:=⟨h.1.ext he,h.2⟩
theorem qqk (a b r:List Tm) (m:Mo):qab (pmul (a ++ smul (-1) b) r) m=qab (pmul a r) m - qab (pmul b r) m:=by
 rw [qaq,qad]
 have : ∀ C:List Tm,qab (pmul (smul (-1) C) r) m = - qab (pmul C r) m:=by
  intro C
  induction C with
  | nil=>rfl
  | cons s C ih=>
   show qab (pmul ((-1*s.1,s.2) :: smul (-1) C) r) m=_;rw [qam,qam,ih];simp only;rw [Int.mul_assoc];omega
 rw [this];omega
theorem qbK {a b r:List Tm} (ha:NN a) (hb:NN b) (hr:NN r) (hz : ¬ Sim r []) (h:Sim (pmul a r) (pmul b r)):Sim a b:=fun m=>by
 refine Classical.byContradiction fun hc=>?_
 have hn:NN (a ++ smul (-1) b):=fun q hq=>by rw [qad,qag,ha q hq,hb q hq];rfl
 refine qaT hn hr (fun hs=>hc ?_) hz fun q=>?_
 ·have:=hs m;rw [qad,qag] at this;have h0:qab ([]:List Tm) m=0:=rfl;omega
 ·rw [qqk,h q];show _=(0:Int);omega
def qxm (W:World) (q r s t:PE) (er xr:Int):Prop:=er=xr /\ ∃ ql rl,CRx M0 W 4 q ql/\CRx M0 W 4 r rl/\CRx M0 W 4 s ql/\CRx M0 W 4 t rl
theorem qxm.ext {W W':World} {q r s t:PE} {er xr:Int} (h:qxm W q r s t er xr) (he:Ext W W'):qxm W' q r s t er xr:=by
 obtain ⟨h1,ql,rl,h2,h3,h4,h5⟩:=h;exact ⟨h1,ql,rl,h2.ext he,h3.ext he,h4.ext he,h5.ext he⟩
def qzf (W:World) (l r:List Tm) (v:PE) (er:Int):Prop:=(er=2/\Sim r []/\v=PE.z)∨(er=0 /\ ¬ Sim r [] /\ ∃ q,CRx M0 W 4 v q/\Sim (pmul q r) l)∨(er=3/\v=PE.z /\ ¬ Sim r [] /\ ¬ Dv r l)
def ExS (W:World) (u v:PE) (er xr:Int):Prop:=er=xr /\ ∃ ul vl,CRx M0 W 4 u ul/\CRx M0 W 4 v vl/\Sim ul vl
theorem ExS.ext {W W':World} {u v:PE} {er xr:Int} (h:ExS W u v er xr) (he:Ext W W'):ExS W' u v er xr:=by
 obtain ⟨h1,ul,vl,h2,h3,h4⟩:=h;exact ⟨h1,ul,vl,h2.ext he,h3.ext he,h4⟩
theorem qmh {l:List Tm} {B:Nat} (hl:NN l) (h:Deg B l):Deg B (snorm l):=fun m hm k=>by
 refine h m (fun h0=>?_) k
 have h1:qab (norm l) m=0:=by rw [qai hl m];exact h0
 rw [<- qbQ l,qag] at h1;rcases Int.mul_eq_zero.1 h1 with h2 | h2
 ·have hz : Sim l [] := (qai hl).symm.trans fun m => by
   rw [<- qbQ l,qag,h2,Int.zero_mul];rfl
  have hn:norm l = []:=hz.norm
  have h3:snorm l = []:=by unfold snorm;rw [hn];rfl
  rw [h3] at hm;exact hm rfl
 ·exact hm h2


def qyB (f g:List Tm) (wd:World) (s9 s10:Value) (wx:World):Prop:=∃ (a b:Nat) (xa xb:PE),s9 = .pointer (some ⟨a,0,none⟩)/\s10 = .pointer (some ⟨b,0,none⟩)/\qr0 wd wx a b xa xb f g
def SG5 (a b c d e:Nat) (x y q r v:PE) (w:World):Prop:=P4 w a x/\P4 w b y/\P4 w c q/\P4 w d r/\P4 w e v
theorem SG5.ext {a b c d e:Nat} {x y q r v:PE} {w w':World} (h:SG5 a b c d e x y q r v w) (he:Ext w w'):SG5 a b c d e x y q r v w':=⟨h.1.ext he,h.2.1.ext he,h.2.2.1.ext he,h.2.2.2.1.ext he,h.2.2.2.2.ext he⟩
def SG4 (a b c d:Nat) (x y q r:PE) (w:World):Prop:=P4 w a x/\P4 w b y/\P4 w c q/\P4 w d r
theorem SG4.ext {a b c d:Nat} {x y q r:PE} {w w':World} (h:SG4 a b c d x y q r w) (he:Ext w w'):SG4 a b c d x y q r w':=⟨h.1.ext he,h.2.1.ext he,h.2.2.1.ext he,h.2.2.2.ext he⟩
def qw9 (b1 b2 b3 b4 b5 b6 b7 b8 b9 b10:Nat) (x1 x2 x3 x4 x5 x6 x7 x8 x9 x10:PE) (w:World):Prop:=SG5 b1 b2 b3 b4 b5 x1 x2 x3 x4 x5 w/\SG5 b6 b7 b8 b9 b10 x6 x7 x8 x9 x10 w
theorem qw9.ext {b1 b2 b3 b4 b5 b6 b7 b8 b9 b10:Nat} {x1 x2 x3 x4 x5 x6 x7 x8 x9 x10:PE} {w w':World} (h:qw9 b1 b2 b3 b4 b5 b6 b7 b8 b9 b10 x1 x2 x3 x4 x5 x6 x7 x8 x9 x10 w) (he:Ext w w'):qw9 b1 b2 b3 b4 b5 b6 b7 b8 b9 b10 x1 x2 x3 x4 x5 x6 x7 x8 x9 x10 w':=⟨h.1.ext he,h.2.ext he⟩
end Go.Proofs.YtmcfpnmoklnhoaaGreat
