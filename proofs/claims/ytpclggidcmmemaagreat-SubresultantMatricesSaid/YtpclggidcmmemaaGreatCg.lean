/- pseudo.divideOut. pseudo.Multiplicity, pseudo.Without; the law's own times. Multiplicities: plain facts; small arguments. -/
import Derived.Test.YtpclggidcmmemaaGreatCb
import Derived.Test.YtpclggidcmmemaaGreatBk
import Derived.Test.YtpclggidcmmemaaGreatCa
set_option linter.unusedVariables false
set_option linter.unusedSimpArgs false

namespace Go.Proofs.YtpclggidcmmemaaGreat
open Go.RowKit

def NC (l : List Tm) : Prop := ∃ m k, coefAt l m ≠ 0 ∧ 1 ≤ k ∧ k ≤ 4 ∧ 0 < m.get k
theorem NC.ne {l : List Tm} (h : NC l) : ¬ Sim l [] := fun hs => by
 obtain ⟨m, k, h1, _⟩ := h
 exact h1 (hs m)
def OutO (M : Nat → Prop) (w' : World) (l g s : List Tm) (A : Nat) (v : PE) (k : Nat) (er : Int) : Prop := (er = 2 ∧ Sim l [] ∧ k = 0 ∧ v = PE.z) ∨ (er = 12 ∧ ¬ Sim l [] ∧ (∃ z, Sim g [(z, Mo.zero)]) ∧ k = 0 ∧ v = PE.z) ∨ (er = 0 ∧ ¬ Sim l [] ∧ NC g ∧ ∃ r, CRx M w' 4 v r ∧ Sim (pmul r (ppow s k)) l ∧ ¬ Dv s r ∧ dlen (nrm r) ≤ A)
theorem OutO.ext {M : Nat → Prop} {w w' : World} {l g s : List Tm} {A : Nat} {v : PE} {k : Nat} {er : Int} (h : OutO M w l g s A v k er) (he : Ext w w') : OutO M w' l g s A v k er :=
 h.imp id (Or.imp id fun ⟨h1, h2, h3, r, h4, h5⟩ => ⟨h1, h2, h3, r, h4.ext he, h5⟩)
theorem OutO.more {M M' : Nat → Prop} {w : World} {l g s : List Tm} {A : Nat} {v : PE} {k : Nat} {er : Int} (h : OutO M w l g s A v k er) (hm : ∀ g, M' g → M g ∨ w.heap.size ≤ g) : OutO M' w l g s A v k er :=
 h.imp id (Or.imp id fun ⟨h1, h2, h3, r, h4, h5⟩ => ⟨h1, h2, h3, r, h4.more hm, h5⟩)
structure DoS (M : Nat → Prop) (w : World) (x y : PE) (l g : List Tm) (wr : World) : Prop where
 p : P4 wr w.heap.size x
 q : Blk wr (w.heap.size + 1) 33 4 (arr (peA y))
 b : Blk wr (w.heap.size + 2) 33 4 (arr zA)
 m : Mb (Mx M w.heap.size (w.heap.size + 3)) wr
 x : PI (Mx M w.heap.size (w.heap.size + 3)) wr x l
 y : PI (Mx M w.heap.size (w.heap.size + 3)) wr y g
 e : Ext w wr
 s : w.heap.size + 3 ≤ wr.heap.size
theorem DoS.ext {M : Nat → Prop} {w wr w' : World} {x y : PE} {l g : List Tm} (h : DoS M w x y l g wr) (he : Ext wr w') : DoS M w x y l g w' :=
 ⟨h.p.ext he, h.q.ext he, h.b.ext he, h.m.ext he, h.x.ext he, h.y.ext he, h.e.trans he, Nat.le_trans h.s he.size⟩
structure DoL (M : Nat → Prop) (w : World) (x y : PE) (r s : List Tm) (wr : World) : Prop where
 p : P4 wr (w.heap.size + 1) y
 b : Blk wr (w.heap.size + 2) 33 4 (arr (peA x))
 m : Mb (Mx M w.heap.size (w.heap.size + 3)) wr
 x : CRx (Mx M w.heap.size (w.heap.size + 3)) wr 4 x r
 y : CRx (Mx M w.heap.size (w.heap.size + 3)) wr 4 y s
 e : Ext w wr
 s : w.heap.size + 3 ≤ wr.heap.size
theorem DoL.ext {M : Nat → Prop} {w wr w' : World} {x y : PE} {r s : List Tm} (h : DoL M w x y r s wr) (he : Ext wr w') : DoL M w x y r s w' :=
 ⟨h.p.ext he, h.b.ext he, h.m.ext he, h.x.ext he, h.y.ext he, h.e.trans he, Nat.le_trans h.s he.size⟩
end Go.Proofs.YtpclggidcmmemaaGreat

namespace Go.Proofs.YtpclggidcmmemaaGreat
open Go.RowKit

structure DoA (M : Nat → Prop) (w : World) (l g s : List Tm) (x y : PE) (C G B A : Nat) : Prop where
 hm : Mb M w
 hx : PI M w x l
 hy : PI M w y g
 sn : ∀ (M' : Nat → Prop) (W' : World), Mb M' W' → (∀ g, M' g → M g ∨ w.heap.size ≤ g) → Ext w W' → Calls Tryz.prog 75 #[.agg (peA y)] W' (RetX M' W' 4 s)
 nc : NC g → NC s
 ns : NN s
 hB : Deg B l
 hC : Deg C s
 hA : dlen (nrm l) ≤ A
 hG : dlen (nrm s) ≤ G
 hO : OkB C 4 B
 hS : A + (B + 1) * (qX C 4 B * (G + 2)) ≤ 549755813888
 B2 : (B + 1) ^ 4 ≤ 1099511627776
 B3 : B ≤ 1000000
theorem DoA.ext {M M' : Nat → Prop} {w w' : World} {l g s : List Tm} {x y : PE} {C G B A : Nat} (h : DoA M w l g s x y C G B A) (hM : Mb M' w') (hm : ∀ g, M' g → M g ∨ w.heap.size ≤ g) (he : Ext w w') : DoA M' w' l g s x y C G B A :=
 ⟨hM, (h.hx.more hm).ext he, (h.hy.more hm).ext he, fun M2 W2 h1 h2 h3 => h.sn M2 W2 h1 (fun q hq => (h2 q hq).elim (fun k => hm q k) (fun k => .inr (Nat.le_trans he.size k))) (he.trans h3), h.nc, h.ns, h.hB, h.hC, h.hA, h.hG, h.hO, h.hS, h.B2, h.B3⟩
end Go.Proofs.YtpclggidcmmemaaGreat

namespace Go.Proofs.YtpclggidcmmemaaGreat
open Go.RowKit

theorem NC.snorm {g : List Tm} (hg : NN g) (h : NC g) : NC (Go.Proofs.YtpclggidcmmemaaGreat.snorm g) := by
 obtain ⟨m, k, h1, h2⟩ := h
 refine ⟨m, k, fun h0 => h1 ?_, h2⟩
 rw [← sim_smul_snorm hg m, coefAt_smul, h0, Int.mul_zero]
theorem NC.lv {g : List Tm} {k : Nat} (h : NC g) (hk : LvR g k) : k ≠ 0 := fun h0 => by
 obtain ⟨m, j, h1, h2, h3, h4⟩ := h
 have := hk.2.1 m h1 j (by omega) h3
 omega
end Go.Proofs.YtpclggidcmmemaaGreat
