/- A range over a function whose body ends normally, where each element comes with what holds of it in the world (a number that has just been made). sparse.Terms as an iterator whose coefficients are told. integer.Neg, division.Exact. sparse.Content. Regions that draw their order, where an operation that reads no memory may come up behind the last one that counts. sparse.SignNormal. mainvar.SignNormal. -/
import Derived.Test.YtpclggidcmmemaaGreatMp
import Derived.Test.YtpclggidcmmemaaGreatNb
set_option linter.unusedVariables false
set_option linter.unusedSimpArgs false

namespace Go.Proofs.YtpclggidcmmemaaGreat
open Go.RowKit

section
variable {F : Fence} {n : Nat} {P : Program} {α : Type}
def LoopAt (D : Nat) (r : Loop) (W : World) : Prop := W.heap[D + 1]? = some (.loop r) ∧ W.heap[D]? = some (.deferred (some []))
theorem LoopAt.lt {D : Nat} {r : Loop} {W : World} (h : LoopAt D r W) : D + 1 < W.heap.size := (Array.getElem?_eq_some_iff.1 h.1).1
theorem LoopAt.put {D : Nat} {r : Loop} {W : World} (h : LoopAt D r W) (s : Loop) : LoopAt D s (W.putObj (D + 1) (.loop s)) := ⟨World.putObj_heap_same h.lt, (World.putObj_heap_other (by omega)).trans h.2⟩
end
end Go.Proofs.YtpclggidcmmemaaGreat

namespace Go.Proofs.YtpclggidcmmemaaGreat
open Go.RowKit

abbrev Yc := TE × Int
def ycL (pre : List Yc) : List Tm := pre.map fun x => (x.2, x.1.m)
def YcLive (X : Nat → Prop) (L : List Tm) (x : Yc) (W : World) : Prop := IntC X W (.bool x.1.b) (.slice x.1.a x.1.n x.1.p) x.2 ∧ (x.2, x.1.m) ∈ L
end Go.Proofs.YtpclggidcmmemaaGreat

namespace Go.Proofs.YtpclggidcmmemaaGreat
open Go.RowKit

def ExactRet (M : Nat → Prop) (w : World) (y z : Int) (e : Ending) (w' : World) : Prop := ∃ (b : Bool) (a : Option Addr) (n p : Nat) (er : Int), e = .returned (.tuple #[.agg #[.bool b, .slice a n p], .int .i64 er]) ∧
 (y.tmod z = 0 → er = 0 ∧ IntC M w' (.bool b) (.slice a n p) (y.tdiv z)) ∧ (y.tmod z ≠ 0 → er = 3 ∧ IntC M w' (.bool b) (.slice a n p) 0) ∧ Ext w w'
set_option maxRecDepth 100000 in
set_option maxHeartbeats 4000000 in
theorem dv_exact {M : Nat → Prop} (b : Bool) (a : Option Addr) (n p : Nat) (y : Int) (b' : Bool) (a' : Option Addr) (n' p' : Nat) (z : Int) (w : World) (hM : Mb M w) (h : IntV M w (.bool b) (.slice a n p) y) (h' : IntV M w (.bool b') (.slice a' n' p') z) (hz : z ≠ 0) (hL : dlen y.natAbs + 1 ≤ 1099511627776) :
  Calls Tryz.prog 74 #[.agg #[.bool b, .slice a n p], .agg #[.bool b', .slice a' n' p']] w (ExactRet M w y z) := by
 have hB0 := ((Blk.of_arr w #[.bool b, .slice a n p] 30 2 rfl).alloc (.cells #[.bool b', .slice a' n' p'] 30)).alloc (.cells zI 30)
 have hB1 := (Blk.of_arr (w.alloc (.cells #[.bool b, .slice a n p] 30)) #[.bool b', .slice a' n' p'] 30 2 rfl).alloc (.cells zI 30)
 have hB2 := Blk.of_arr ((w.alloc (.cells #[.bool b, .slice a n p] 30)).alloc (.cells #[.bool b', .slice a' n' p'] 30)) zI 30 2 rfl
 have hE0 : Ext w (((w.alloc (.cells #[.bool b, .slice a n p] 30)).alloc (.cells #[.bool b', .slice a' n' p'] 30)).alloc (.cells zI 30)) := (((Ext.refl w).alloc _).alloc _).alloc _
 simp only [World.size_alloc] at hB1 hB2
 have hM0 : Mb (Mx M w.heap.size (w.heap.size + 3)) (((w.alloc (.cells #[.bool b, .slice a n p] 30)).alloc (.cells #[.bool b', .slice a' n' p'] 30)).alloc (.cells zI 30)) := Mx.mb hM (by simp; omega) (by simp)
 have h0 := (h.more (M' := Mx M w.heap.size (w.heap.size + 3)) (Mx.more (Nat.le_refl _))).ext hE0
 have h0' := (h'.more (M' := Mx M w.heap.size (w.heap.size + 3)) (Mx.more (Nat.le_refl _))).ext hE0
 generalize hW0 : ((w.alloc (.cells #[.bool b, .slice a n p] 30)).alloc (.cells #[.bool b', .slice a' n' p'] 30)).alloc (.cells zI 30) = W0 at *
 have HW0 := Lib.hid hW0
 have HB2 := Lib.hid hB2
 have HE0 := Lib.hid hE0
 have HM0 := Lib.hid hM0
 have c0 := hB0.cell (i := 0) (by omega)
 have c1 := hB0.cell (i := 1) (by omega)
 have c2 := hB1.cell (i := 0) (by omega)
 have c3 := hB1.cell (i := 1) (by omega)
 simp only [arr] at c0 c1 c2 c3
 have g0 := hB0.lt
 have g1 := hB1.lt
 have CTR := Lib.hid (dv_quo b a n p y b' a' n' p' z W0 hM0 h0 h0' hz hL)
 clear h h' hM hW0 hB0 hB1 hB2 hE0 hM0 h0 h0' hz hL
 go_enter Tryz.func74, Tryz.ntmps74
 go_upto_region 1 with (fail)
 rw [HW0.out]
 go_wp2_with (fail)
 refine CTR.out.mono ?_
 rintro e w1 ⟨qb, qa, qn, qp, rb, ra, rn, rp, rfl, hq, hr, he1⟩
 clear CTR c0 c1 c2 c3 g0 g1
 go_upto_region 2 with (fail)
 have hG1 := (Blk.of_arr w1 #[.bool qb, .slice qa qn qp] 30 2 rfl).alloc (.cells #[.bool rb, .slice ra rn rp] 30)
 have hG2 := Blk.of_arr (w1.alloc (.cells #[.bool qb, .slice qa qn qp] 30)) #[.bool rb, .slice ra rn rp] 30 2 rfl
 have hEA : Ext w1 ((w1.alloc (.cells #[.bool qb, .slice qa qn qp] 30)).alloc (.cells #[.bool rb, .slice ra rn rp] 30)) := ((Ext.refl _).alloc _).alloc _
 simp only [World.size_alloc] at hG2
 have hq2 := hq.ext hEA
 have hr2 := hr.ext hEA
 have hb2 := (HB2.out.ext he1).ext hEA
 have hE1 := he1.trans hEA
 have hng : w.heap.size + 3 ≤ w1.heap.size := by have := (HB2.out.ext he1).lt; omega
 generalize hG : w1.heap.size = G at *
 generalize hW1 : (w1.alloc (.cells #[.bool qb, .slice qa qn qp] 30)).alloc (.cells #[.bool rb, .slice ra rn rp] 30) = W1 at *
 have c0 := hG1.cell (i := 0) (by omega)
 have c1 := hG1.cell (i := 1) (by omega)
 have c2 := hG2.cell (i := 0) (by omega)
 have c3 := hG2.cell (i := 1) (by omega)
 simp only [arr] at c0 c1 c2 c3
 have g1 := hG1.lt
 have g2 := hG2.lt
 have HQ := Lib.hid hq2
 have HB := Lib.hid hb2
 have HE1 := Lib.hid hE1
 have CT2 := Lib.hid (dv_isZero rb ra rn rp (y.tmod z) W1 hr2.toV)
 have HG1 := Lib.hid hG1
 clear hG1 hG2 hEA hq2 hr2 hb2 hE1 hG hW1 hq hr he1
 go_wp2_with (fail)
 refine CT2.out.mono ?_
 rintro e w2 ⟨rfl, he2⟩
 clear CT2 c2 c3 g2
 by_cases hm : y.tmod z = 0
 ·have hmd : decide (y.tmod z = 0) = true := by simp [hm]
  have HMZ := Lib.hid hm
  clear hm
  obtain ⟨⟨q0, q1, f0, f1⟩, ⟨r0, r1⟩, hkp, hext⟩ := fin2 (M' := Mx M w.heap.size (w.heap.size + 3)) (w := w) (.bool qb) (.slice qa qn qp) (HB.out.ext he2) (Mx.at (by omega)) (by omega) ((HE0.out.trans HE1.out).trans he2)
  have HF : Hid (ExactRet M w y z (.returned (.tuple #[.agg #[.bool qb, .slice qa qn qp], .int .i64 0])) ((w2.setCell ⟨w.heap.size + 1 + 1, 0, none⟩ (.bool qb)).setCell ⟨w.heap.size + 1 + 1, 1, none⟩ (.slice qa qn qp))) :=
   ⟨_, _, _, _, 0, rfl, fun _ => ⟨rfl, ((HQ.out.ext he2).kp hkp).more Mx.less⟩, fun h => absurd HMZ.out h, hext⟩
  rw [← he2.cell g1] at c0 c1
  have g1' := Nat.lt_of_lt_of_le g1 he2.size
  simp only [arr] at q0 q1
  clear hkp hext g1 he2
  go_wp2
  exact bodyPost_ret (v := .tuple #[.agg #[.bool qb, .slice qa qn qp], .int .i64 0]) (by simp [results, Tryz.results74, go_sem, r0, r1]) rfl HF.out
 ·have hmd : decide (y.tmod z = 0) = false := by simp [hm]
  have HMZ := Lib.hid hm
  clear hm c0 c1 g1
  obtain ⟨⟨q0, q1, f0, f1⟩, ⟨r0, r1⟩, hkp, hext⟩ := fin2 (M' := Mx M w.heap.size (w.heap.size + 3)) (w := w) (.bool false) (.slice none 0 0) (HB.out.ext he2) (Mx.at (by omega)) (by omega) ((HE0.out.trans HE1.out).trans he2)
  have HF : Hid (ExactRet M w y z (.returned (.tuple #[.agg #[.bool false, .slice none 0 0], .int .i64 3])) ((w2.setCell ⟨w.heap.size + 1 + 1, 0, none⟩ (.bool false)).setCell ⟨w.heap.size + 1 + 1, 1, none⟩ (.slice none 0 0))) :=
   ⟨_, _, _, _, 3, rfl, fun h => absurd h HMZ.out, fun _ => ⟨rfl, IntC.zero _ _⟩, hext⟩
  simp only [arr] at q0 q1
  clear hkp hext he2
  go_wp2
  exact bodyPost_ret (v := .tuple #[.agg #[.bool false, .slice none 0 0], .int .i64 3]) (by simp [results, Tryz.results74, go_sem, r0, r1]) rfl HF.out
end Go.Proofs.YtpclggidcmmemaaGreat

namespace Go.Proofs.YtpclggidcmmemaaGreat
open Go.RowKit
attribute [local go_sem] Oper.semAt_some

def gcL (l : List Tm) : Nat := l.foldl (fun g t => Nat.gcd g t.1.natAbs) 0
section
variable {M M' : Nat → Prop} {w w' : World} {v : Value} {l : List Tm}
theorem PolyW.ext (h : PolyW M w v l) (he : Ext w w') : PolyW M w' v l := by
 obtain ⟨n, z, m, c0, c1, ⟨hnL, hrow⟩, h1, h2⟩ := h
 refine ⟨n, z, m, c0, c1, ⟨hnL, ?_⟩, h1, fun i hi => (h2 i hi).ext he⟩
 rcases hrow with hrow | ⟨b, off, cap, hv, hn, hc, hb, hcell⟩
 ·exact .inl hrow
 ·refine .inr ⟨b, off, cap, hv, hn, hc, ⟨Nat.lt_of_lt_of_le hb.1 he.size, fun h => h⟩, fun i hi => ?_⟩
  rw [he.cell hb.1, he.cell hb.1, he.cell hb.1, he.cell hb.1, he.cell hb.1, he.cell hb.1]; exact hcell i hi
theorem PolyW.more (h : PolyW M w v l) (hm : ∀ g, M' g → M g ∨ w.heap.size ≤ g) : PolyW M' w v l := by
 obtain ⟨n, z, m, c0, c1, h0, h1, h2⟩ := h
 exact ⟨n, z, m, c0, c1, h0, h1, fun i hi => (h2 i hi).more hm⟩
theorem PolyW.form (h : PolyW M w v l) : ∃ a cap, v = .slice a l.length cap := by
 obtain ⟨n, z, m, c0, c1, ⟨hnL, hrow⟩, rfl, hI⟩ := h
 rw [show (tls n z m).length = n by simp [tls]]
 rcases hrow with ⟨⟨_, _, rfl, _⟩, rfl⟩ | ⟨b, off, cap, rfl, _⟩
 ·exact ⟨_, _, rfl⟩
 ·exact ⟨_, _, rfl⟩
end
end Go.Proofs.YtpclggidcmmemaaGreat

namespace Go.Proofs.YtpclggidcmmemaaGreat
open Go.RowKit

section
variable {P : Program} {ops : Array Oper} {Q : Exit → Act → World → Prop} {md : Region.Mode} {S : World → Prop} {last : Nat}
end
end Go.Proofs.YtpclggidcmmemaaGreat

namespace Go.Proofs.YtpclggidcmmemaaGreat
open Go.RowKit

def sgnN : List Tm → Int
 | [] => 1
 | t :: l => if t.1 < 0 then -((gcL (t :: l) : Nat) : Int) else ((gcL (t :: l) : Nat) : Int)
def snorm (l : List Tm) : List Tm := (norm l).map fun t => (t.1.tdiv (sgnN (norm l)), t.2)
theorem gcF_dvd (l : List Tm) : ∀ a : Nat, (l.foldl (fun g t => Nat.gcd g t.1.natAbs) a ∣ a) ∧ ∀ t ∈ l, l.foldl (fun g t => Nat.gcd g t.1.natAbs) a ∣ t.1.natAbs := by
 induction l with
 | nil => intro a; exact ⟨Nat.dvd_refl _, fun t ht => by cases ht⟩
 | cons s l ih =>
  intro a
  obtain ⟨h1, h2⟩ := ih (Nat.gcd a s.1.natAbs)
  refine ⟨Nat.dvd_trans h1 (Nat.gcd_dvd_left _ _), fun t ht => ?_⟩
  rcases List.mem_cons.1 ht with rfl | ht
  ·exact Nat.dvd_trans h1 (Nat.gcd_dvd_right _ _)
  ·exact h2 t ht
theorem gcL_dvd {l : List Tm} {t : Tm} (h : t ∈ l) : gcL l ∣ t.1.natAbs := (gcF_dvd l 0).2 t h
theorem gcL_ne {l : List Tm} {t : Tm} (h : t ∈ l) (h0 : t.1 ≠ 0) : gcL l ≠ 0 := fun e => by
 have := gcL_dvd h
 rw [e, Nat.zero_dvd] at this; omega
theorem sgnN_natAbs {l : List Tm} (h : l ≠ []) : (sgnN l).natAbs = gcL l := by
 cases l with
 | nil => exact absurd rfl h
 | cons t l =>
  by_cases h0 : t.1 < 0
  ·rw [sgnN, if_pos h0, Int.natAbs_neg, Int.natAbs_natCast]
  ·rw [sgnN, if_neg h0, Int.natAbs_natCast]
theorem sgnN_ne {l : List Tm} (h : Canon l) : sgnN l ≠ 0 := fun e => by
 cases l with
 | nil => cases e
 | cons t l =>
  have h1 := sgnN_natAbs (l := t :: l) (by simp)
  have h2 := gcL_ne (List.mem_cons_self (a := t) (l := l)) (h.2 t (List.mem_cons_self ..)).1
  rw [e] at h1; exact h2 h1.symm
theorem sgnN_dvd {l : List Tm} {t : Tm} (h : t ∈ l) : sgnN l ∣ t.1 := by
 rw [← Int.natAbs_dvd_natAbs, sgnN_natAbs (fun e => by rw [e] at h; cases h)]
 exact gcL_dvd h
def ScG (MM : Nat → Prop) (base : Nat) (w : World) (v : Value) (n : Nat) (z z' : Nat → Int) (m : Nat → Mo) (k : Nat) : Prop :=
 ∃ X : Nat → TE, Own w base 116 6 v n (tx X) ∧ (∀ i, i < n → IntC MM w (.bool (X i).b) (.slice (X i).a (X i).n (X i).p) (if i < k then z' i else z i) ∧ (X i).m = m i)
theorem ScG.kp {MM : Nat → Prop} {base : Nat} {w w' : World} {g cap n : Nat} {z z' : Nat → Int} {m : Nat → Mo} {k : Nat} (h : ScG MM base w (.slice (some ⟨g, 0, none⟩) n cap) n z z' m k) (hk : Kp MM w w') (hg : w'.heap[g]? = w.heap[g]?) : ScG MM base w' (.slice (some ⟨g, 0, none⟩) n cap) n z z' m k := by
 obtain ⟨X, hO, hX⟩ := h
 exact ⟨X, hO.of_heap (fun q hq => by simp only [Value.ownBlock, Option.some.injEq] at hq; subst hq; exact hg), fun i hi => ⟨(hX i hi).1.kp hk, (hX i hi).2⟩⟩
theorem ScG.ext {MM : Nat → Prop} {base : Nat} {w w' : World} {g cap n : Nat} {z z' : Nat → Int} {m : Nat → Mo} {k : Nat} (h : ScG MM base w (.slice (some ⟨g, 0, none⟩) n cap) n z z' m k) (he : Ext w w') : ScG MM base w' (.slice (some ⟨g, 0, none⟩) n cap) n z z' m k := by
 obtain ⟨X, hO, hX⟩ := h
 exact ⟨X, hO.ext he, fun i hi => ⟨(hX i hi).1.ext he, (hX i hi).2⟩⟩
end Go.Proofs.YtpclggidcmmemaaGreat

namespace Go.Proofs.YtpclggidcmmemaaGreat
open Go.RowKit

theorem snorm_canon (l : List Tm) : Canon (snorm l) := by
 have hc := norm_canon l
 unfold snorm
 refine ⟨?_, fun t ht => ?_⟩
 ·rw [List.pairwise_map]; exact hc.1
 ·obtain ⟨s, hs, rfl⟩ := List.mem_map.1 ht
  refine ⟨fun e => ?_, (hc.2 s hs).2⟩
  have h1 := Int.tdiv_mul_cancel (sgnN_dvd hs)
  simp only at e
  rw [e, Int.zero_mul] at h1
  exact (hc.2 s hs).1 h1.symm
theorem norm_snorm (l : List Tm) : norm (snorm l) = snorm l := norm_of_canon (snorm_canon l)
theorem snorm_norm (l : List Tm) : snorm (norm l) = snorm l := by unfold snorm; rw [norm_norm]
theorem Sim.snorm {l r : List Tm} (h : Sim l r) : snorm l = snorm r := by unfold Go.Proofs.YtpclggidcmmemaaGreat.snorm; rw [h.norm]
theorem nrm_map_le (s : Int) (l : List Tm) : nrm (l.map fun t => (t.1.tdiv s, t.2)) ≤ nrm l := by
 induction l with
 | nil => exact Nat.le_refl _
 | cons t l ih =>
  simp only [List.map_cons, nrm]
  have := Int.natAbs_tdiv_le_natAbs t.1 s
  omega
theorem snorm_nrm (l : List Tm) : nrm (snorm l) ≤ nrm l := Nat.le_trans (nrm_map_le _ _) (norm_nrm l)
theorem smul_snorm (l : List Tm) : smul (sgnN (norm l)) (snorm l) = norm l := by
 unfold smul snorm
 rw [List.map_map]
 conv => rhs; rw [← List.map_id (norm l)]
 apply List.map_congr_left
 intro t ht
 have := Int.tdiv_mul_cancel (sgnN_dvd ht)
 rw [Int.mul_comm] at this
 show (sgnN (norm l) * t.1.tdiv (sgnN (norm l)), t.2) = t
 rw [this]
end Go.Proofs.YtpclggidcmmemaaGreat
