/- Powers of lists of terms; the bits of an exponent (plain). recpoly.Pow. sparse.Pow. sparse.isLevel, sparse.Var. The law RecpolyPower: arguments and the walk. The law RecpolyPower returns true at every input, without a panic, and leaves its arguments as they were; no conditions. -/
import Derived.Test.YtiopnmlohpmmiaaGreatMt
import Derived.Laws.BitsLemmas
import Derived.Test.YtiopnmlohpmmiaaGreatMi
set_option linter.unusedVariables false
set_option linter.unusedSimpArgs false

namespace Go.Proofs.YtiopnmlohpmmiaaGreat
open Go.RowKit

def ppow (l : List Tm) : Nat → List Tm
  | 0 => [(1, Mo.zero)]
  | n + 1 => pmul (ppow l n) l
theorem ppow_succ (l : List Tm) (n : Nat) : ppow l (n + 1) = pmul (ppow l n) l := rfl
theorem pmul_one (l : List Tm) : Sim (pmul l [(1, Mo.zero)]) l := by
  have h := pmul_single l (1, Mo.zero)
  rw [shift_zero] at h
  refine h.trans fun m => ?_
  rw [coefAt_smul]; simp
theorem ppow_add (l : List Tm) (a : Nat) : ∀ b : Nat, Sim (pmul (ppow l a) (ppow l b)) (ppow l (a + b))
  | 0 => pmul_one _
  | b + 1 => by
    have h := Sim.pmul_assoc (ppow l a) (ppow l b) l
    exact h.symm.trans ((ppow_add l a b).pmul_left l)
theorem nrm_ppow (l : List Tm) : ∀ n : Nat, nrm (ppow l n) = nrm l ^ n
  | 0 => by simp [ppow, nrm]
  | n + 1 => by rw [ppow_succ, nrm_pmul, nrm_ppow l n, Nat.pow_succ]
theorem dlen_pow (x : Nat) : ∀ n : Nat, dlen (x ^ n) ≤ n * dlen x + 1
  | 0 => by rw [Nat.pow_zero]; exact Nat.le_trans ((dlen_le_iff 1 1).2 (by decide)) (by omega)
  | n + 1 => by
    rw [Nat.pow_succ]
    have h1 := dlen_mul (x ^ n) x
    have h2 := dlen_pow x n
    have h3 : (n + 1) * dlen x = n * dlen x + dlen x := Nat.succ_mul _ _
    omega
/-- the bits of an exponent -/
def Pw (b : Nat) : Prop := ∃ j, b = 2 ^ j
end Go.Proofs.YtiopnmlohpmmiaaGreat

namespace Go.Proofs.YtiopnmlohpmmiaaGreat
open Go.RowKit

/-- the places that Pow writes: its parameter and its result (s, s + 1), and the power (g) -/
abbrev MPw (M : Nat → Prop) (s g : Nat) : Nat → Prop := Mx (Mx M s (s + 2)) g (g + 1)
/-- Pow's variables: the polynomial y, the power r -/
structure PowS (M : Nat → Prop) (w : World) (g : Nat) (l r : List Tm) (y z : PE) (wr : World) : Prop where
  p : P4 wr w.heap.size y
  q : Blk wr (w.heap.size + 1) 28 4 (arr zA)
  b : Blk wr g 28 4 (arr (peA z))
  cy : CRx (MPw M w.heap.size g) wr 4 y l
  cz : CRx (MPw M w.heap.size g) wr 4 z r
  m : Mb (MPw M w.heap.size g) wr
  e : Ext w wr
  gs : w.heap.size + 2 ≤ g
section
variable {M : Nat → Prop} {w wr w' : World} {g : Nat} {l r r' : List Tm} {y z z' : PE}
theorem PowS.ext (h : PowS M w g l r y z wr) (he : Ext wr w') : PowS M w g l r y z w' :=
  ⟨h.p.ext he, h.q.ext he, h.b.ext he, h.cy.ext he, h.cz.ext he, h.m.ext he, h.e.trans he, h.gs⟩
theorem PowS.sim (h : PowS M w g l r y z wr) (hs : Sim r r') : PowS M w g l r' y z wr :=
  ⟨h.p, h.q, h.b, h.cy, CR.sim h.cz hs, h.m, h.e, h.gs⟩
theorem arr4 {f : Nat → Value} {z : PE} : ∀ i, i < 4 → upd4 f 0 (.int .i64 z.lv) (.bool z.b) (.slice z.a z.n z.p) (.slice z.ka z.kn z.kp) i = arr (peA z) i := by
  intro i hi
  have : i = 0 ∨ i = 1 ∨ i = 2 ∨ i = 3 := by omega
  rcases this with rfl | rfl | rfl | rfl
  · exact upd4_0 _ 0 _ _ _ _
  · exact upd4_1 _ 0 _ _ _ _
  · exact upd4_2 _ 0 _ _ _ _
  · exact upd4_3 _ 0 _ _ _ _
theorem P4.of_heap {b : Nat} {x : PE} (h : P4 wr b x) (he : w'.heap[b]? = wr.heap[b]?) : P4 w' b x := by
  have hc := fun o => World.cell?_of_block (w := wr) (w' := w') (a := ⟨b, o, none⟩) he
  obtain ⟨p0, p1, p2, p3⟩ := h
  exact ⟨(hc 0).trans p0, (hc 1).trans p1, (hc 2).trans p2, (hc 3).trans p3⟩
theorem PowS.put (h : PowS M w g l r y z wr) (hz : CRx (MPw M w.heap.size g) wr 4 z' r') : PowS M w g l r' y z' (set4 wr g 0 (.int .i64 z'.lv) (.bool z'.b) (.slice z'.a z'.n z'.p) (.slice z'.ka z'.kn z'.kp)) := by
  have hgs := h.gs
  have hM : MPw M w.heap.size g g := Mx.at ⟨Nat.le_refl _, Nat.lt_succ_self _⟩
  have hk : Kp (MPw M w.heap.size g) wr (set4 wr g 0 (.int .i64 z'.lv) (.bool z'.b) (.slice z'.a z'.n z'.p) (.slice z'.ka z'.kn z'.kp)) := Kp.set4 hM 0 _ _ _ _
  have h1 := heap_set4 wr g 0 (.int .i64 z'.lv) (.bool z'.b) (.slice z'.a z'.n z'.p) (.slice z'.ka z'.kn z'.kp) w.heap.size (by omega)
  have h2 := heap_set4 wr g 0 (.int .i64 z'.lv) (.bool z'.b) (.slice z'.a z'.n z'.p) (.slice z'.ka z'.kn z'.kp) (w.heap.size + 1) (by omega)
  have h3 := h.b.set4 0 (.int .i64 z'.lv) (.bool z'.b) (.slice z'.a z'.n z'.p) (.slice z'.ka z'.kn z'.kp)
  have h4 := h3.congr (f' := arr (peA z')) (fun i hi => arr4 i hi)
  have h5 := h.e.set4 (g := g) (by omega) 0 (.int .i64 z'.lv) (.bool z'.b) (.slice z'.a z'.n z'.p) (.slice z'.ka z'.kn z'.kp)
  have h6 := h.cy.kp hk
  have h7 := hz.kp hk
  have h8 := h.m.size hk.1
  generalize set4 wr g 0 (.int .i64 z'.lv) (.bool z'.b) (.slice z'.a z'.n z'.p) (.slice z'.ka z'.kn z'.kp) = W at *
  exact ⟨h.p.of_heap h1, h.q.of_heap h2, h4, h6, h7, h8, h5, hgs⟩
end
end Go.Proofs.YtiopnmlohpmmiaaGreat

namespace Go.Proofs.YtiopnmlohpmmiaaGreat
open Go.RowKit

theorem mem_pmul {l r : List Tm} {t : Tm} (h : t ∈ pmul l r) : ∃ a ∈ l, ∃ b ∈ r, t.2 = Mo.add a.2 b.2 := by
  induction l with
  | nil => cases h
  | cons s l ih =>
    simp only [pmul, List.mem_append] at h
    rcases h with h | h
    · simp only [shift, smul, List.mem_map] at h
      obtain ⟨u, ⟨v, hv, rfl⟩, rfl⟩ := h
      exact ⟨s, List.mem_cons_self .., v, hv, Mo.add_comm' _ _⟩
    · obtain ⟨a, ha, b, hb, e⟩ := ih h
      exact ⟨a, List.mem_cons_of_mem _ ha, b, hb, e⟩
/-- a list of terms that stands for the power e of l -/
structure SPw (l : List Tm) (K B e : Nat) (r : List Tm) : Prop where
  s : Sim r (ppow l e)
  n : nrm r ≤ nrm (ppow l e)
  c : Canon r
  len : r.length ≤ K ^ e
  ex : ∀ t ∈ r, ∀ k, t.2.get k ≤ (e * B : Nat)
theorem SPw.zero (l : List Tm) (K B : Nat) : SPw l K B 0 (constL 1) :=
  ⟨Sim.refl _, Nat.le_refl _, ⟨List.pairwise_singleton .., fun t ht => by rw [List.mem_singleton.1 ht]; exact ⟨by decide, by decide⟩⟩, Nat.le_refl _, fun t ht k => by rw [List.mem_singleton.1 ht]; simp [get_zero]⟩
theorem SPw.mul {l r q : List Tm} {K B a b : Nat} (h : SPw l K B a r) (k : SPw l K B b q) : SPw l K B (a + b) (norm (pmul (norm r) (norm q))) := by
  rw [norm_of_canon h.c, norm_of_canon k.c]
  have hnn : ∀ s ∈ pmul r q, s.2.nn = true := by
    intro s hs
    obtain ⟨x, hx, y, hy, e⟩ := mem_pmul hs
    have h1 := (Mo.nn_iff _).1 (h.c.2 x hx).2
    have h2 := (Mo.nn_iff _).1 (k.c.2 y hy).2
    rw [e, Mo.nn_iff]
    simp only [Mo.add]
    omega
  refine ⟨(sim_norm hnn).trans ((h.s.pmul k.s).trans (ppow_add l a b)), ?_, norm_canon _, ?_, ?_⟩
  · refine Nat.le_trans (norm_nrm _) ?_
    have h1 := Nat.mul_le_mul h.n k.n
    rw [nrm_ppow, nrm_ppow, ← Nat.pow_add] at h1
    rw [nrm_pmul, nrm_ppow]; exact h1
  · refine Nat.le_trans (norm_length _) ?_
    rw [pmul_length, Nat.pow_add]; exact Nat.mul_le_mul h.len k.len
  · intro t ht j
    obtain ⟨s, hs, e⟩ := norm_mem ht
    obtain ⟨x, hx, y, hy, e'⟩ := mem_pmul hs
    have h1 := h.ex x hx j
    have h2 := k.ex y hy j
    rw [← e, e', get_add, Nat.add_mul]
    omega
end Go.Proofs.YtiopnmlohpmmiaaGreat

namespace Go.Proofs.YtiopnmlohpmmiaaGreat
open Go.RowKit

theorem sp_isLevel (l : Int) (w : World) : Calls Tryz.prog 108 #[.int .i64 l] w fun e w' => e = .returned (.bool (isLevB l)) ∧ w = w' := by
  by_cases h1 : 1 ≤ l
  · by_cases h2 : l ≤ 4
    · have H : Hid (isLevB l = true) := by show _ = _; unfold isLevB; simp [h1, h2]
      go_enter Tryz.func108, Tryz.ntmps108
      go_wp2
      go_ret
      exact ⟨by rw [H.out]; rfl, rfl⟩
    · have H : Hid (isLevB l = false) := by show _ = _; unfold isLevB; simp [h2]
      go_enter Tryz.func108, Tryz.ntmps108
      go_wp2
      go_ret
      exact ⟨by rw [H.out]; rfl, rfl⟩
  · have H : Hid (isLevB l = false) := by show _ = _; unfold isLevB; simp [h1]
    go_enter Tryz.func108, Tryz.ntmps108
    go_wp2
    go_ret
    exact ⟨by rw [H.out]; rfl, rfl⟩
/-- the four cells of a monomial -/
def SVm (b : Nat) (m : Mo) (w : World) : Prop := w.cell? ⟨b, 0, none⟩ = some (.int .i64 m.a) ∧ w.cell? ⟨b, 1, none⟩ = some (.int .i64 m.b) ∧ w.cell? ⟨b, 2, none⟩ = some (.int .i64 m.c) ∧ w.cell? ⟨b, 3, none⟩ = some (.int .i64 m.d)
theorem SVm.ext {b : Nat} {m : Mo} {w w' : World} (h : SVm b m w) (he : Ext w w') : SVm b m w' := by
  have h1 := World.block_lt_of_cell? _ _ h.1
  unfold SVm; rw [he.cell h1, he.cell h1, he.cell h1, he.cell h1]; exact h
end Go.Proofs.YtiopnmlohpmmiaaGreat

namespace Go.Proofs.YtiopnmlohpmmiaaGreat
open Go.ChangeShapes Go.WideShapes Go.ChangeAt Go.RowKit Go.Deep

section
variable {H : Type} {enc : TypeId × Value → H} {W : World}
def IRaw (W : World) (a : Option Addr) (n c : Nat) : Prop := n ≤ 9223372036854775807 ∧ (n ≤ 1099511627776 → ∃ d, NatR M0 W (.slice a n c) n d)
end
/-- the law's own boxes: the number and the exponents -/
def SBx (s : Nat) (b : Bool) (a : Option Addr) (n c : Nat) (y z : Int) (w : World) : Prop := (w.cell? ⟨s, 0, none⟩ = some (.bool b) ∧ w.cell? ⟨s, 1, none⟩ = some (.slice a n c)) ∧ w.cell? ⟨s + 1, 0, none⟩ = some (.int .i8 y) ∧ w.cell? ⟨s + 1, 1, none⟩ = some (.int .i8 z)
theorem SBx.ext {s : Nat} {b : Bool} {a : Option Addr} {n c : Nat} {y z : Int} {w w' : World} (h : SBx s b a n c y z w) (he : Ext w w') : SBx s b a n c y z w' := by
  have h1 := World.block_lt_of_cell? _ _ h.1.1
  have h2 := World.block_lt_of_cell? _ _ h.2.1
  unfold SBx; rw [he.cell h1, he.cell h1, he.cell h2, he.cell h2]; exact h
/-- .. and the polynomial -/
def SPB (s : Nat) (b : Bool) (a : Option Addr) (n c : Nat) (y z : Int) (g : Nat) (r : PE) (w : World) : Prop := SBx s b a n c y z w ∧ P4 w g r
theorem SPB.ext {s : Nat} {b : Bool} {a : Option Addr} {n c : Nat} {y z : Int} {g : Nat} {r : PE} {w w' : World} (h : SPB s b a n c y z g r w) (he : Ext w w') : SPB s b a n c y z g r w' := ⟨h.1.ext he, h.2.ext he⟩
end Go.Proofs.YtiopnmlohpmmiaaGreat

namespace Go.Proofs.YtiopnmlohpmmiaaGreat
open Go.ChangeShapes Go.WideShapes Go.ChangeAt Go.RowKit Go.Deep

namespace recpolyPower
theorem own : ownKnob Tryz.prog.godebug = none := by kernel_rfl
end recpolyPower
end Go.Proofs.YtiopnmlohpmmiaaGreat
