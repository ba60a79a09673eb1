/- mainvar.OfLevel; cylinderlaw23.equal. MainvarOfLevel: the walk. -/
import Derived.Test.YtjcceddloogiiaaGreatDl
set_option linter.unusedVariables false
set_option linter.unusedSimpArgs false

namespace Go.Proofs.YtjcceddloogiiaaGreat
open Go.RowKit

def SK2 (b1 o1 b2 o2 : Nat) (x y : PE) (w : World) : Prop := KCell w b1 o1 x ∧ KCell w b2 o2 y
theorem SK2.ext {b1 o1 b2 o2 : Nat} {x y : PE} {w w' : World} (h : SK2 b1 o1 b2 o2 x y w) (he : Ext w w') : SK2 b1 o1 b2 o2 x y w' := ⟨h.1.ext (World.block_lt_of_cell? _ _ h.1.1) he, h.2.ext (World.block_lt_of_cell? _ _ h.2.1) he⟩
theorem law_equalP (M : Nat → Prop) (a b : Option Addr) (n p q : Nat) (F G : Nat → List Tm) (w : World) (h : KRow M w 4 (.slice a n p) n F) (h' : KRow M w 4 (.slice b n q) n G) (hs : ∀ i, i < n → simB (F i) (G i) = true) : Calls Tryz.prog 26 #[.slice a n p, .slice b n q] w fun e w' => e = .returned (.bool true) ∧ Ext w w' := by
 have hnL : n ≤ 1099511627776 := h.1
 have HF := Lib.hid h
 have HG := Lib.hid h'
 have HS := Lib.hid hs
 clear h h' hs
 go_enter Tryz.func26, Tryz.ntmps26
 go_wp2
 go_loopw [13] (fun i wr => ∃ k : Nat, k ≤ n ∧ i = .int .i64 k ∧ Hid (Ext w wr)) (fun i _ => n - (intOf i).toNat)
 case atStart => exact ⟨0, Nat.zero_le _, rfl, Ext.refl _⟩
 case round =>
  obtain ⟨k, hk, rfl, HE⟩ := hrel
  by_cases hlt : k < n
  ·obtain ⟨b1, o1, rfl, _, _, hb1, _, e0, e1, e2, e3, c0, c1, c2, c3, hc⟩ := HF.out.at k hlt
   obtain ⟨x, rfl, rfl, rfl, rfl, hx, _⟩ := CR.pe hc
   obtain ⟨b2, o2, rfl, _, _, hb2, _, e0, e1, e2, e3, d0, d1, d2, d3, hd⟩ := HG.out.at k hlt
   obtain ⟨y, rfl, rfl, rfl, rfl, hy, _⟩ := CR.pe hd
   have hltI : (k : Int) < (n : Int) := by omega
   have HLT := Lib.hid hlt
   have hS : SK2 b1 (o1 + k * 4) b2 (o2 + k * 4) x y wr.drew := SK2.ext ⟨⟨c0, c1, c2, c3⟩, ⟨d0, d1, d2, d3⟩⟩ (HE.out.trans (Ext.refl wr).drew)
   have HB1 : Hid (b1 < wr.heap.size ∧ b2 < wr.heap.size) := ⟨Nat.lt_of_lt_of_le hb1 HE.out.size, Nat.lt_of_lt_of_le hb2 HE.out.size⟩
   have CE := Lib.hid (fun W (he : Ext w W) => rf_equal 4 M (F k) (G k) x y W ((hx : CRx M w 4 x (F k)).ext he) ((hy : CRx M w 4 y (G k)).ext he))
   have HSK := Lib.hid (HS.out k hlt)
   clear c0 c1 c2 c3 d0 d1 d2 d3 hc hd hx hy hb1 hb2
   go_upto_region 6 with (fail)
   refine wp_region_u (SK2 b1 (o1 + k * 4) b2 (o2 + k * 4) x y) 10 (by kernel_rfl) hS (fun hHeld => ?_)
   have HE2 := Lib.hid (HE.out.trans (Ext.refl wr).drew)
   clear hS HE
   generalize wr.drew = wd at *
   (refine tkB [0, 1, 2, 3, 4, 5, 6, 7] ?_; (iterate 8 (refine tk1 (oi := ?_) (v := ?_) (by kernel_rfl) (by first | exact hSn | exact hHeld) ?_ ?_ ?_ ?_ ?_; rotate_left 2; (simp only [xgA, xgB, xgC]; rfl); rfl; (intro wS hSw; obtain ⟨⟨S1, S2, S3, S4⟩, S5, S6, S7, S8⟩ := hSw; go_simp; try with_reducible rfl); (exact fun _ _ _ h => h); (try simp only [Act.put, xgD, xgE, xgF]))); refine tkE ?_)
   ((refine wpAnyU_one 8 (o := ?_) (by kernel_rfl) ?_ ?_; rotate_left 1; (simp only [xgA, xgB, xgC]; rfl); intro K hK); go_simp; (refine (CE.out _ HE2.out).mono ?_); rintro e_ w8 ⟨rfl, e8⟩; go_wp2_with (fail); (try clear hSn); (have hSn := hHeld.ext e8); (refine hK.out _ _ (fun _ => hSn) ?_); clear hK K; (try simp only [Act.put, xgD, xgE, xgF]))
   rw [HSK.out]
   (refine tkB [9] ?_; (iterate 1 (refine tk1 (oi := ?_) (v := ?_) (by kernel_rfl) (by first | exact hSn | exact hHeld) ?_ ?_ ?_ ?_ ?_; rotate_left 2; (simp only [xgA, xgB, xgC]; rfl); rfl; (intro wS hSw; obtain ⟨⟨S1, S2, S3, S4⟩, S5, S6, S7, S8⟩ := hSw; go_simp; try with_reducible rfl); (exact fun _ _ _ h => h); (try simp only [Act.put, xgD, xgE, xgF]))); refine tkE ?_)
   refine wpAnyU_done (by kernel_rfl) ?_ _
   have HE3 := Lib.hid (HE2.out.trans e8)
   clear hHeld hSn e8 HE2 CE HSK
   go_wp2
   go_roundw
   case rel => exact ⟨k + 1, HLT.out, by go_num, HE3⟩
   case measure => have := HLT.out; simp [intOf]; omega
  ·have hge : ¬ (k : Int) < (n : Int) := by omega
   have HE3 := Lib.hid HE.out
   clear HE
   go_wp2
   go_ret
   exact ⟨rfl, HE3.out⟩
def lvl (l : List Tm) : Nat := lvM (l.map (·.2))
def RetOl (M : Nat → Prop) (w : World) (N : Nat) (P : Nat → List Tm) (L : Int) (e : Ending) (w' : World) : Prop := ∃ (a : Option Addr) (c p : Nat) (σ : Nat → Nat), e = .returned (.slice a c p) ∧ Sel (fun i => decide ((lvl (norm (P i)) : Int) = L)) N c σ ∧ KRow M w' 4 (.slice a c p) c (fun i => norm (P (σ i))) ∧ Ext w w'
end Go.Proofs.YtjcceddloogiiaaGreat

namespace Go.Proofs.YtjcceddloogiiaaGreat
open Go.RowKit

theorem Sel.cnt {nz : Nat → Bool} {k c : Nat} {σ : Nat → Nat} (h : Sel nz k c σ) : c = ((List.range k).filter nz).length := by
 have := congrArg List.length h
 simpa using this
theorem Sel.uniq {nz : Nat → Bool} {k c c' : Nat} {σ σ' : Nat → Nat} (h : Sel nz k c σ) (h' : Sel nz k c' σ') : c = c' ∧ ∀ i, i < c → σ i = σ' i := by
 have hc : c = c' := by rw [h.cnt, h'.cnt]
 subst hc
 refine ⟨rfl, fun i hi => ?_⟩
 have e : (List.range c).map σ = (List.range c).map σ' := by unfold Sel at h h'; rw [h, h']
 have := congrArg (fun l => l[i]?) e
 simpa [hi] using this
def cntLt (P : Nat → Nat) (n k : Nat) : Nat := ((List.range n).filter fun i => decide (P i < k)).length
end Go.Proofs.YtjcceddloogiiaaGreat
