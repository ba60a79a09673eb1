/- A range over a function whose body ends normally, where each element comes with what holds of it in the world (a number that has just been made). sparse.Terms as an iterator whose coefficients are told. integer.Neg, division.Exact. sparse.Content. Regions that draw their order, where an operation that reads no memory may come up behind the last one that counts. sparse.SignNormal. mainvar.SignNormal. -/
import Derived.Test.YtpclggidcmmemaaGreatMp
import Derived.Test.YtpclggidcmmemaaGreatNb
set_option linter.unusedVariables false
set_option linter.unusedSimpArgs false

namespace Go.Proofs.YtpclggidcmmemaaGreat
open Go.RowKit

section
variable {F : Fence} {n : Nat} {P : Program} {α : Type}
def LoopAt (D : Nat) (r : Loop) (W : World) : Prop := W.heap[D + 1]? = some (.loop r) ∧ W.heap[D]? = some (.deferred (some []))
theorem LoopAt.lt {D : Nat} {r : Loop} {W : World} (h : LoopAt D r W) : D + 1 < W.heap.size := (Array.getElem?_eq_some_iff.1 h.1).1
end
end Go.Proofs.YtpclggidcmmemaaGreat

namespace Go.Proofs.YtpclggidcmmemaaGreat
open Go.RowKit

abbrev Yc := TE × Int
def ycL (pre : List Yc) : List Tm := pre.map fun x => (x.2, x.1.m)
def YcLive (X : Nat → Prop) (L : List Tm) (x : Yc) (W : World) : Prop := IntC X W (.bool x.1.b) (.slice x.1.a x.1.n x.1.p) x.2 ∧ (x.2, x.1.m) ∈ L
end Go.Proofs.YtpclggidcmmemaaGreat

namespace Go.Proofs.YtpclggidcmmemaaGreat
open Go.RowKit

end Go.Proofs.YtpclggidcmmemaaGreat

namespace Go.Proofs.YtpclggidcmmemaaGreat
open Go.RowKit
attribute [local go_sem] Oper.semAt_some

def gcL (l : List Tm) : Nat := l.foldl (fun g t => Nat.gcd g t.1.natAbs) 0
section
variable {M M' : Nat → Prop} {w w' : World} {v : Value} {l : List Tm}
theorem PolyW.ext (h : PolyW M w v l) (he : Ext w w') : PolyW M w' v l := by
 obtain ⟨n, z, m, c0, c1, ⟨hnL, hrow⟩, h1, h2⟩ := h
 refine ⟨n, z, m, c0, c1, ⟨hnL, ?_⟩, h1, fun i hi => (h2 i hi).ext he⟩
 rcases hrow with hrow | ⟨b, off, cap, hv, hn, hc, hb, hcell⟩
 ·exact .inl hrow
 ·refine .inr ⟨b, off, cap, hv, hn, hc, ⟨Nat.lt_of_lt_of_le hb.1 he.size, fun h => h⟩, fun i hi => ?_⟩
  rw [he.cell hb.1, he.cell hb.1, he.cell hb.1, he.cell hb.1, he.cell hb.1, he.cell hb.1]; exact hcell i hi
theorem PolyW.more (h : PolyW M w v l) (hm : ∀ g, M' g → M g ∨ w.heap.size ≤ g) : PolyW M' w v l := by
 obtain ⟨n, z, m, c0, c1, h0, h1, h2⟩ := h
 exact ⟨n, z, m, c0, c1, h0, h1, fun i hi => (h2 i hi).more hm⟩
end
end Go.Proofs.YtpclggidcmmemaaGreat

namespace Go.Proofs.YtpclggidcmmemaaGreat
open Go.RowKit

section
variable {P : Program} {ops : Array Oper} {Q : Exit → Act → World → Prop} {md : Region.Mode} {S : World → Prop} {last : Nat}
end
end Go.Proofs.YtpclggidcmmemaaGreat

namespace Go.Proofs.YtpclggidcmmemaaGreat
open Go.RowKit

def sgnN : List Tm → Int
 | [] => 1
 | t :: l => if t.1 < 0 then -((gcL (t :: l) : Nat) : Int) else ((gcL (t :: l) : Nat) : Int)
def snorm (l : List Tm) : List Tm := (norm l).map fun t => (t.1.tdiv (sgnN (norm l)), t.2)
theorem gcF_dvd (l : List Tm) : ∀ a : Nat, (l.foldl (fun g t => Nat.gcd g t.1.natAbs) a ∣ a) ∧ ∀ t ∈ l, l.foldl (fun g t => Nat.gcd g t.1.natAbs) a ∣ t.1.natAbs := by
 induction l with
 | nil => intro a; exact ⟨Nat.dvd_refl _, fun t ht => by cases ht⟩
 | cons s l ih =>
  intro a
  obtain ⟨h1, h2⟩ := ih (Nat.gcd a s.1.natAbs)
  refine ⟨Nat.dvd_trans h1 (Nat.gcd_dvd_left _ _), fun t ht => ?_⟩
  rcases List.mem_cons.1 ht with rfl | ht
  ·exact Nat.dvd_trans h1 (Nat.gcd_dvd_right _ _)
  ·exact h2 t ht
theorem gcL_dvd {l : List Tm} {t : Tm} (h : t ∈ l) : gcL l ∣ t.1.natAbs := (gcF_dvd l 0).2 t h
theorem gcL_ne {l : List Tm} {t : Tm} (h : t ∈ l) (h0 : t.1 ≠ 0) : gcL l ≠ 0 := fun e => by
 have := gcL_dvd h
 rw [e, Nat.zero_dvd] at this; omega
theorem sgnN_natAbs {l : List Tm} (h : l ≠ []) : (sgnN l).natAbs = gcL l := by
 cases l with
 | nil => exact absurd rfl h
 | cons t l =>
  by_cases h0 : t.1 < 0
  ·rw [sgnN, if_pos h0, Int.natAbs_neg, Int.natAbs_natCast]
  ·rw [sgnN, if_neg h0, Int.natAbs_natCast]
theorem sgnN_ne {l : List Tm} (h : Canon l) : sgnN l ≠ 0 := fun e => by
 cases l with
 | nil => cases e
 | cons t l =>
  have h1 := sgnN_natAbs (l := t :: l) (by simp)
  have h2 := gcL_ne (List.mem_cons_self (a := t) (l := l)) (h.2 t (List.mem_cons_self ..)).1
  rw [e] at h1; exact h2 h1.symm
theorem sgnN_dvd {l : List Tm} {t : Tm} (h : t ∈ l) : sgnN l ∣ t.1 := by
 rw [← Int.natAbs_dvd_natAbs, sgnN_natAbs (fun e => by rw [e] at h; cases h)]
 exact gcL_dvd h
def ScG (MM : Nat → Prop) (base : Nat) (w : World) (v : Value) (n : Nat) (z z' : Nat → Int) (m : Nat → Mo) (k : Nat) : Prop :=
 ∃ X : Nat → TE, Own w base 116 6 v n (tx X) ∧ (∀ i, i < n → IntC MM w (.bool (X i).b) (.slice (X i).a (X i).n (X i).p) (if i < k then z' i else z i) ∧ (X i).m = m i)
theorem ScG.kp {MM : Nat → Prop} {base : Nat} {w w' : World} {g cap n : Nat} {z z' : Nat → Int} {m : Nat → Mo} {k : Nat} (h : ScG MM base w (.slice (some ⟨g, 0, none⟩) n cap) n z z' m k) (hk : Kp MM w w') (hg : w'.heap[g]? = w.heap[g]?) : ScG MM base w' (.slice (some ⟨g, 0, none⟩) n cap) n z z' m k := by
 obtain ⟨X, hO, hX⟩ := h
 exact ⟨X, hO.of_heap (fun q hq => by simp only [Value.ownBlock, Option.some.injEq] at hq; subst hq; exact hg), fun i hi => ⟨(hX i hi).1.kp hk, (hX i hi).2⟩⟩
theorem ScG.ext {MM : Nat → Prop} {base : Nat} {w w' : World} {g cap n : Nat} {z z' : Nat → Int} {m : Nat → Mo} {k : Nat} (h : ScG MM base w (.slice (some ⟨g, 0, none⟩) n cap) n z z' m k) (he : Ext w w') : ScG MM base w' (.slice (some ⟨g, 0, none⟩) n cap) n z z' m k := by
 obtain ⟨X, hO, hX⟩ := h
 exact ⟨X, hO.ext he, fun i hi => ⟨(hX i hi).1.ext he, (hX i hi).2⟩⟩
end Go.Proofs.YtpclggidcmmemaaGreat

namespace Go.Proofs.YtpclggidcmmemaaGreat
open Go.RowKit

theorem snorm_canon (l : List Tm) : Canon (snorm l) := by
 have hc := norm_canon l
 unfold snorm
 refine ⟨?_, fun t ht => ?_⟩
 ·rw [List.pairwise_map]; exact hc.1
 ·obtain ⟨s, hs, rfl⟩ := List.mem_map.1 ht
  refine ⟨fun e => ?_, (hc.2 s hs).2⟩
  have h1 := Int.tdiv_mul_cancel (sgnN_dvd hs)
  simp only at e
  rw [e, Int.zero_mul] at h1
  exact (hc.2 s hs).1 h1.symm
theorem norm_snorm (l : List Tm) : norm (snorm l) = snorm l := norm_of_canon (snorm_canon l)
theorem snorm_norm (l : List Tm) : snorm (norm l) = snorm l := by unfold snorm; rw [norm_norm]
theorem Sim.snorm {l r : List Tm} (h : Sim l r) : snorm l = snorm r := by unfold Go.Proofs.YtpclggidcmmemaaGreat.snorm; rw [h.norm]
theorem nrm_map_le (s : Int) (l : List Tm) : nrm (l.map fun t => (t.1.tdiv s, t.2)) ≤ nrm l := by
 induction l with
 | nil => exact Nat.le_refl _
 | cons t l ih =>
  simp only [List.map_cons, nrm]
  have := Int.natAbs_tdiv_le_natAbs t.1 s
  omega
theorem snorm_nrm (l : List Tm) : nrm (snorm l) ≤ nrm l := Nat.le_trans (nrm_map_le _ _) (norm_nrm l)
theorem smul_snorm (l : List Tm) : smul (sgnN (norm l)) (snorm l) = norm l := by
 unfold smul snorm
 rw [List.map_map]
 conv => rhs; rw [← List.map_id (norm l)]
 apply List.map_congr_left
 intro t ht
 have := Int.tdiv_mul_cancel (sgnN_dvd ht)
 rw [Int.mul_comm] at this
 show (sgnN (norm l) * t.1.tdiv (sgnN (norm l)), t.2) = t
 rw [this]
end Go.Proofs.YtpclggidcmmemaaGreat
