/- the small functions of cylinderlaw24; plain facts of PseudoExact. PseudoExact: the walk. -/
import Derived.Test.YtgppogaoilijcaaGreatBj
import Derived.Test.YtgppogaoilijcaaGreatMr
set_option linter.unusedVariables false
set_option linter.unusedSimpArgs false

namespace Go.Proofs.YtgppogaoilijcaaGreat
open Go.RowKit

theorem law_few24 (a : Option Addr) (n cap : Nat) (X : Nat → TE) (T E : Nat) (w : World) (h : TRaw w a n cap X) (hX : ∀ i, i < n → (X i).n ≤ 9223372036854775807) : Calls Tryz.prog 16 #[.slice a n cap, .int .i64 (T : Int), .int .i64 (E : Int)] w (RetB (FewP n X T 4 E) w) := by
  have ctr := rf_fewp a n cap X T 4 E w h hX
  rw [show ((4 : Nat) : Int) = 4 from rfl] at ctr
  have CTR := Lib.hid ctr
  clear ctr h hX
  go_enter Tryz.func16, Tryz.ntmps16
  go_wp2_with (fail)
  refine CTR.out.mono ?_
  rintro e w1 ⟨b, rfl, hb, rfl⟩
  have HB := Lib.hid hb
  clear hb
  go_wp2
  go_ret
  exact ⟨b, rfl, HB.out, rfl⟩
theorem law_canonical24 (M : Nat → Prop) (l : List Tm) (x : PE) (w : World) (h : CRx M w 4 x l) : Calls Tryz.prog 65 #[.agg (peA x)] w fun e w' => e = .returned (.bool true) ∧ Ext w w' := by
  have hEa := (Ext.refl w).alloc (.cells (peA x) 34)
  have CTR := Lib.hid (fun W he => rf_canonical 4 M l x 5 W (h.ext he) (by have := h.lev; omega))
  clear h
  go_enter Tryz.func65, Tryz.ntmps65
  go_wp2_with (fail)
  refine (CTR.out _ ?h1).mono ?_
  case h1 => first | exact hEa | exact Ext.refl w
  rintro e w1 ⟨rfl, he1⟩
  have HF := Lib.hid he1
  go_wp2
  go_ret
  first | exact ⟨rfl, hEa.trans HF.out⟩ | exact ⟨rfl, HF.out⟩
theorem law_ok : OkB 3 4 6 := by
  simp only [OkB, inB]
  decide
theorem law_num : 100 + qX 3 4 6 * (50 + 2) ≤ 549755813888 := by
  simp only [qX, inB]
  decide
theorem OkB.less {C L B B' : Nat} (h : OkB C L B') (hB : B ≤ B') : OkB C L B := h.mono hB
theorem ex_prod {M : Nat → Prop} {w w' : World} {e : Ending} {A : Nat} {p r : List Tm} (hp : NN p) (hr : NN r) (h : RetQ M w (pmul p r) r A e w') :
    ∃ (v : PE) (er : Int), e = .returned (.tuple #[.agg (peA v), .int .i64 er]) ∧ ((er = 2 ∧ Sim r [] ∧ v = PE.z) ∨ (er = 0 ∧ ¬ Sim r [] ∧ CRx M w' 4 v p)) ∧ Ext w w' := by
  obtain ⟨v, er, h1, h2, h3⟩ := h
  refine ⟨v, er, h1, ?_, h3⟩
  rcases h2 with h4 | ⟨rfl, hz, q, q1, q2, _⟩ | ⟨_, _, _, h4⟩
  · exact .inl h4
  · exact .inr ⟨rfl, hz, q1.sim (cancel q1.nn hp hr hz q2)⟩
  · exact absurd ⟨p, hp, Sim.refl _⟩ h4
theorem dv_snorm {r l : List Tm} (hr : NN r) (h : Dv r l) : Dv (snorm r) l := by
  obtain ⟨q, hq, hs⟩ := h
  refine ⟨pmul q [(sgnN (norm r), Mo.zero)], nn_pmul hq (nn_of_all fun t ht => by
    simp only [List.mem_singleton] at ht; subst ht; rfl), ?_⟩
  refine (Sim.pmul_assoc _ _ _).trans (Sim.trans (Sim.pmul_right ?_ q) hs)
  refine (Sim.pmul_comm _ _).trans ((pmul_single _ _).trans ?_)
  rw [shift_zero, smul_snorm]
  exact nn_norm_sim hr
theorem snorm_ne {r : List Tm} (hr : NN r) (h : ¬ Sim r []) : ¬ Sim (snorm r) [] := fun hh => h ((nn_norm_sim hr).symm.trans (by
  have h1 := hh.smul (sgnN (norm r))
  rw [smul_snorm] at h1
  exact h1))
end Go.Proofs.YtgppogaoilijcaaGreat

namespace Go.Proofs.YtgppogaoilijcaaGreat
open Go.RowKit

theorem sn_ctr {M : Nat → Prop} {w : World} {x : PE} {l : List Tm} (hx : CRx M w 4 x l) (hB : Deg 3 l) (hL : dlen (nrm l) ≤ 5) (M' : Nat → Prop) (W' : World) (h1 : Mb M' W') (h2 : ∀ g, M' g → M g ∨ w.heap.size ≤ g) (h3 : Ext w W') : Calls Tryz.prog 23 #[.agg (peA x)] W' (RetX M' W' 4 (snorm l)) := by
  obtain ⟨t, hR, hT, hS, hN⟩ := hx.tbN (B := 3) (Nat.le_refl _) (by omega) hB (by decide)
  rw [← hS.snorm]
  refine mv_snorm M' (4 + 1) t x W' h1 (RR.ext (RR.more h2 hR) h3) hT ?_
  have h5 := dlen_mono hN
  omega
theorem snorm_deg {l : List Tm} {B : Nat} (hl : NN l) (hz : ¬ Sim l []) (h : Deg B l) : Deg B (snorm l) := fun m hm k => by
  refine h m (fun h0 => ?_) k
  have h1 : coefAt (norm l) m = 0 := by rw [nn_norm_sim hl m]; exact h0
  rw [← smul_snorm l, coefAt_smul] at h1
  rcases Int.mul_eq_zero.1 h1 with h2 | h2
  · refine hz ((nn_norm_sim hl).symm.trans fun m => ?_)
    rw [← smul_snorm l, coefAt_smul, h2, Int.zero_mul]; rfl
  · exact hm h2
structure Sm (l : List Tm) : Prop where
  nn : NN l
  deg : Deg 3 l
  dl : dlen (nrm l) ≤ 5
theorem PRaw.sm {W : World} {a : Option Addr} {n cap : Nat} {X : Nat → TE} (h : PRaw W a n cap X) (hf : FewP n X 6 4 ((3 : Nat) : Int)) : ∃ l, PolyV M0 W (.slice a n cap) l ∧ Sm (norm l) ∧ dlen (nrm l) ≤ 1099511627776 ∧ ∀ s ∈ l, ∀ k, s.2.get k ≤ 1073741824 := by
  obtain ⟨l, h1, h2, h3, h4⟩ := h.poly hf (by omega) (by omega)
  refine ⟨l, h1, ⟨nn_of_all (all_nn_norm l), deg_of_exp fun s hs k => (h4 s hs k).1, Nat.le_trans (dlen_mono (norm_nrm l)) h3⟩, Nat.le_trans h3 (by omega), fun s hs k => by have := (h4 s hs k).1; omega⟩
def EP (M : Nat → Prop) (w : World) (r p : List Tm) (er : Int) (v : PE) : Prop := (er = 2 ∧ Sim r [] ∧ v = PE.z) ∨ (er = 0 ∧ ¬ Sim r [] ∧ CRx M w 4 v p)
theorem EP.ext {M : Nat → Prop} {w w' : World} {r p : List Tm} {er : Int} {v : PE} (h : EP M w r p er v) (he : Ext w w') : EP M w' r p er v := h.imp id fun ⟨a, b, c⟩ => ⟨a, b, c.ext he⟩
theorem EP.kp {M : Nat → Prop} {w w' : World} {r p : List Tm} {er : Int} {v : PE} (h : EP M w r p er v) (he : Kp M w w') : EP M w' r p er v := h.imp id fun ⟨a, b, c⟩ => ⟨a, b, c.kp he⟩
theorem EP.more {M M' : Nat → Prop} {w : World} {r p : List Tm} {er : Int} {v : PE} (h : EP M w r p er v) (hm : ∀ g, M' g → M g ∨ w.heap.size ≤ g) : EP M' w r p er v := h.imp id fun ⟨a, b, c⟩ => ⟨a, b, c.more hm⟩
def ECut (r p : List Tm) (W : World) (s10 s11 : Value) (wx : World) : Prop := ∃ (g : Nat) (v : PE) (er : Int), s10 = .pointer (some ⟨g, 0, none⟩) ∧ s11 = .int .i64 er ∧ P4 wx g v ∧ EP M0 wx r p er v ∧ Ext W wx
end Go.Proofs.YtgppogaoilijcaaGreat
