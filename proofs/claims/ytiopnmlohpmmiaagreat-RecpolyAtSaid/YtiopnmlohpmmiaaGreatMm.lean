/- sparse: a gather as an account of a list of terms; Add. sparse: Scale, Neg, Sub. Regions that draw their order: the last operation may wait for the others through others. sparse: Mul. recpoly: Sub, Neg. -/
import Derived.Test.YtiopnmlohpmmiaaGreatMh
set_option linter.unusedVariables false
set_option linter.unusedSimpArgs false

namespace Go.Proofs.YtiopnmlohpmmiaaGreat
open Go.RowKit

/-- the gather at g holds the sum of the terms L -/
def GAcc (M : Nat → Prop) (base : Nat) (w : World) (g : Nat) (L : List Tm) : Prop :=
  ∃ (n : Nat) (z : Nat → Int) (m : Nat → Mo), GSt M base w g n z m ∧ GOk n m ∧ n ≤ L.length ∧ nrm (tls n z m) ≤ nrm L ∧ ∀ q, coefAt (tls n z m) q = ncoef L q
theorem GAcc.ext {M : Nat → Prop} {base : Nat} {w w' : World} {g : Nat} {L : List Tm} (h : GAcc M base w g L) (he : Ext w w') : GAcc M base w' g L := by
  obtain ⟨n, z, m, h1, h2⟩ := h
  exact ⟨n, z, m, h1.ext he, h2⟩
theorem GAcc.lt {M : Nat → Prop} {base : Nat} {w : World} {g : Nat} {L : List Tm} (h : GAcc M base w g L) : base ≤ g ∧ g < w.heap.size := by
  obtain ⟨n, z, m, h1, h2⟩ := h
  exact h1.lt
theorem GAcc.gblk {M : Nat → Prop} {base : Nat} {w : World} {g : Nat} {L : List Tm} (h : GAcc M base w g L) {b : Nat} (hb : GBlk w g b) : base ≤ b ∧ b < w.heap.size := by
  obtain ⟨n, z, m, h1, h2⟩ := h
  exact h1.gblk hb
theorem PolyV.form {M : Nat → Prop} {w : World} {v : Value} {l : List Tm} (h : PolyV M w v l) : ∃ a cap, v = .slice a l.length cap := by
  obtain ⟨n, z, m, c0, c1, ⟨hnL, hrow⟩, rfl, hI⟩ := h
  rw [show (tls n z m).length = n by simp [tls]]
  rcases hrow with ⟨rfl, rfl⟩ | ⟨b, off, cap, rfl, _⟩
  · exact ⟨_, _, rfl⟩
  · exact ⟨_, _, rfl⟩
theorem PolyV.len {M : Nat → Prop} {w : World} {v : Value} {l : List Tm} (h : PolyV M w v l) : l.length ≤ 1099511627776 := by
  obtain ⟨n, z, m, c0, c1, ⟨hnL, hrow⟩, rfl, hI⟩ := h
  simpa [tls] using hnL
/-- the term number k of a polynomial in memory -/
theorem PolyV.at {M : Nat → Prop} {w : World} {a : Option Addr} {n cap : Nat} {l : List Tm} (h : PolyV M w (.slice a n cap) l) {k : Nat} (hk : k < l.length) : ∃ (b off : Nat) (c : Int) (m : Mo) (b1 : Bool) (a1 : Option Addr) (n1 p1 : Nat),
    a = some ⟨b, off, none⟩ ∧ l.length ≤ cap ∧ cap ≤ maxLen ∧ b < w.heap.size ∧ w.cell? ⟨b, off + k * 6, none⟩ = some (.bool b1) ∧ w.cell? ⟨b, off + k * 6 + 1, none⟩ = some (.slice a1 n1 p1) ∧
    w.cell? ⟨b, off + k * 6 + 2, none⟩ = some (.int .i64 m.a) ∧ w.cell? ⟨b, off + k * 6 + 3, none⟩ = some (.int .i64 m.b) ∧ w.cell? ⟨b, off + k * 6 + 4, none⟩ = some (.int .i64 m.c) ∧ w.cell? ⟨b, off + k * 6 + 5, none⟩ = some (.int .i64 m.d) ∧
    IntV M w (.bool b1) (.slice a1 n1 p1) c ∧ l.take (k + 1) = l.take k ++ [(c, m)] ∧ (c, m) ∈ l := by
  obtain ⟨n', z, m, c0, c1, ⟨hnL, hrow⟩, rfl, hI⟩ := h
  have hlen : (tls n' z m).length = n' := by simp [tls]
  rw [hlen] at hk ⊢
  rcases hrow with ⟨_, h0⟩ | ⟨b, off, cap', hv, hcap, hm, hb, hcells⟩
  · omega
  simp only [Value.slice.injEq] at hv
  obtain ⟨rfl, rfl, rfl⟩ := hv
  obtain ⟨x0, x1, x2, x3, x4, x5⟩ := hcells k hk
  have hIk := hI k hk
  obtain ⟨b1, a1, n1, p1, e0, e1⟩ := hIk.form
  rw [e0, e1] at hIk
  rw [e0] at x0
  rw [e1] at x1
  have hmem : (z k, m k) ∈ tls n z m := List.mem_map.2 ⟨k, List.mem_range.2 hk, rfl⟩
  refine ⟨b, off, z k, m k, b1, a1, n1, p1, rfl, hcap, hm, hb.1, x0, x1, x2, x3, x4, x5, hIk, ?_, hmem⟩
  rw [List.take_succ_eq_append_getElem (by rw [hlen]; exact hk)]
  simp [tls]
end Go.Proofs.YtiopnmlohpmmiaaGreat

namespace Go.Proofs.YtiopnmlohpmmiaaGreat
open Go.RowKit

/-- the state of Scale after k terms -/
def ScSt (M : Nat → Prop) (base : Nat) (w : World) (v : Value) (n : Nat) (z : Nat → Int) (m : Nat → Mo) (k : Nat) (c : Int) : Prop :=
  ∃ X : Nat → TE, Own w base 131 6 v n (tx X) ∧ (∀ i, i < n → IntC (MR M v) w (.bool (X i).b) (.slice (X i).a (X i).n (X i).p) (if i < k then z i * c else z i) ∧ (X i).m = m i)
/-- what the loads of Scale's region read -/
def SSc (b t k : Nat) (c0 c1 d0 d1 : Value) (w : World) : Prop := w.cell? ⟨b, 0, none⟩ = some c0 ∧ w.cell? ⟨b, 1, none⟩ = some c1 ∧ w.cell? ⟨t, k * 6, none⟩ = some d0 ∧ w.cell? ⟨t, k * 6 + 1, none⟩ = some d1
theorem SSc.ext {b t k : Nat} {c0 c1 d0 d1 : Value} {w w' : World} (h : SSc b t k c0 c1 d0 d1 w) (he : Ext w w') : SSc b t k c0 c1 d0 d1 w' := by
  have h1 := World.block_lt_of_cell? _ _ h.1
  have h2 := World.block_lt_of_cell? _ _ h.2.2.1
  unfold SSc; rw [he.cell h1, he.cell h1, he.cell h2, he.cell h2]; exact h
theorem ScSt.step {M : Nat → Prop} {base : Nat} {w : World} {g cap : Nat} {n : Nat} {z : Nat → Int} {m : Nat → Mo} {k : Nat} {c : Int} {b2 : Bool} {a2 : Option Addr} {n2 p2 : Nat} (h : ScSt M base w (.slice (some ⟨g, 0, none⟩) n cap) n z m k c) (hk : k < n) (hI : IntC (MR M (.slice (some ⟨g, 0, none⟩) n cap)) w (.bool b2) (.slice a2 n2 p2) (z k * c)) :
    ScSt M base ((w.setCell ⟨g, k * 6, none⟩ (.bool b2)).setCell ⟨g, k * 6 + 1, none⟩ (.slice a2 n2 p2)) (.slice (some ⟨g, 0, none⟩) n cap) n z m (k + 1) c ∧ base ≤ g := by
  obtain ⟨X, hO, hX⟩ := h
  obtain ⟨g', cap', F, hv, hbg, hB, hnc, hcm, hF⟩ := hO.some (by omega)
  simp only [Value.slice.injEq, Option.some.injEq, Addr.mk.injEq, and_true, true_and] at hv
  obtain ⟨rfl, rfl⟩ := hv
  have hkp : Kp (MR M (.slice (some ⟨g, 0, none⟩) n cap)) w ((w.setCell ⟨g, k * 6, none⟩ (.bool b2)).setCell ⟨g, k * 6 + 1, none⟩ (.slice a2 n2 p2)) :=
    (Kp.set _ w (p := ⟨g, k * 6, none⟩) (.inr rfl) _).trans (Kp.set _ _ (p := ⟨g, k * 6 + 1, none⟩) (.inr rfl) _)
  refine ⟨⟨fun i => if i = k then ⟨b2, a2, n2, p2, m k⟩ else X i, .inr ⟨g, cap, _, rfl, hbg, (hB.set (k * 6) _).set (k * 6 + 1) _, hnc, hcm, fun j hj => ?_⟩, fun i hi => ?_⟩, hbg⟩
  · have h1 : upd (upd F (k * 6) (.bool b2)) (k * 6 + 1) (.slice a2 n2 p2) j = upd (upd (tx X) (k * 6) (.bool b2)) (k * 6 + 1) (.slice a2 n2 p2) j := by
      unfold upd; rw [hF j hj]
    rw [h1]
    unfold tx
    rw [tcell_upd]
    unfold tcell updV
    by_cases hj6 : j / 6 = k
    · simp [hj6, (hX k hk).2]
    · simp [hj6]
  · by_cases hik : i = k
    · subst hik
      simp only [if_true, Nat.lt_succ_self]
      exact ⟨hI.kp hkp, trivial⟩
    · simp only [if_neg hik]
      obtain ⟨h1, h2⟩ := hX i hi
      refine ⟨?_, h2⟩
      have h3 := h1.kp hkp
      by_cases hlt : i < k
      · rw [if_pos hlt] at h3; rw [if_pos (by omega)]; exact h3
      · rw [if_neg hlt] at h3; rw [if_neg (by omega)]; exact h3
end Go.Proofs.YtiopnmlohpmmiaaGreat

namespace Go.Proofs.YtiopnmlohpmmiaaGreat
open Go.RowKit

section
variable {P : Program} {ops : Array Oper} {Q : Exit → Act → World → Prop} {md : Region.Mode} {S : World → Prop} {last : Nat}
/-- whatever is listed has its forerunners listed -/
def Cl (md : Region.Mode) (ops : Array Oper) (listed : Array Bool) : Prop := ∀ (j : Nat) (o : Oper), ops[j]? = some o → listed.getD j false = true → ∀ e ∈ o.after, Region.binds md e = true → listed.getD e.on false = true
def clB (md : Region.Mode) (ops : Array Oper) (listed : Array Bool) : Bool := (List.range ops.size).all fun j => !listed.getD j false || ((ops[j]?).map fun o => o.after.all fun e => !Region.binds md e || listed.getD e.on false).getD true
/-- j waits for i, through at most f others -/
def reachB (md : Region.Mode) (ops : Array Oper) : Nat → Nat → Nat → Bool
  | 0, _, _ => false
  | f + 1, j, i => ((ops[j]?).map fun o => o.after.any fun e => Region.binds md e && (e.on == i || reachB md ops f e.on i)).getD false
theorem Cl.step {listed : Array Bool} (hc : Cl md ops listed) {j : Nat} (hj : j ∈ Region.ready md ops listed) : Cl md ops (listed.setIfInBounds j true) := by
  intro k o ho hl e he hb
  by_cases hkj : k = j
  · subst hkj
    obtain ⟨_, o', ho', hall⟩ := mem_ready.1 hj
    rw [ho] at ho'
    cases ho'
    exact getD_set_true (hall e he hb)
  · rw [getD_set_ne false (Ne.symm hkj)] at hl
    exact getD_set_true (hc k o ho hl e he hb)
end
end Go.Proofs.YtiopnmlohpmmiaaGreat

namespace Go.Proofs.YtiopnmlohpmmiaaGreat
open Go.RowKit

/-- the products that Mul has gathered -/
def mulAcc (P R : List Tm) (i j : Nat) : List Tm := pmul (P.take i) R ++ pmul ((P.drop i).take 1) (R.take j)
theorem pmul_length (P R : List Tm) : (pmul P R).length = P.length * R.length := by
  induction P with
  | nil => simp [pmul]
  | cons s P ih => simp [pmul, shift, smul, ih, Nat.add_mul]; omega
/-- what the loads of Mul's region read -/
def SMu (bm bs bt : Nat) (m : Mo) (c0 c1 d0 d1 : Value) (w : World) : Prop := (w.cell? ⟨bm, 0, none⟩ = some (.int .i64 m.a) ∧ w.cell? ⟨bm, 1, none⟩ = some (.int .i64 m.b) ∧ w.cell? ⟨bm, 2, none⟩ = some (.int .i64 m.c) ∧ w.cell? ⟨bm, 3, none⟩ = some (.int .i64 m.d)) ∧
  (w.cell? ⟨bs, 0, none⟩ = some c0 ∧ w.cell? ⟨bs, 1, none⟩ = some c1) ∧ (w.cell? ⟨bt, 0, none⟩ = some d0 ∧ w.cell? ⟨bt, 1, none⟩ = some d1)
theorem SMu.ext {bm bs bt : Nat} {m : Mo} {c0 c1 d0 d1 : Value} {w w' : World} (h : SMu bm bs bt m c0 c1 d0 d1 w) (he : Ext w w') : SMu bm bs bt m c0 c1 d0 d1 w' := by
  have h1 := World.block_lt_of_cell? _ _ h.1.1
  have h2 := World.block_lt_of_cell? _ _ h.2.1.1
  have h3 := World.block_lt_of_cell? _ _ h.2.2.1
  unfold SMu; rw [he.cell h1, he.cell h1, he.cell h1, he.cell h1, he.cell h2, he.cell h2, he.cell h3, he.cell h3]; exact h
end Go.Proofs.YtiopnmlohpmmiaaGreat

namespace Go.Proofs.YtiopnmlohpmmiaaGreat
open Go.RowKit

end Go.Proofs.YtiopnmlohpmmiaaGreat
