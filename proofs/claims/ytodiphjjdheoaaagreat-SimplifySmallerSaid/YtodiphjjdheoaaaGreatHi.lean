/- Matrices as arguments: the terms of their polynomials, sizes (plain). -/
import Derived.Test.YtodiphjjdheoaaaGreatHb
import Derived.Test.YtodiphjjdheoaaaGreatNj
set_option linter.unusedVariables false
set_option linter.unusedSimpArgs false

namespace Go.Proofs.YtodiphjjdheoaaaGreat
open Go.RowKit

noncomputable def tmS (W : World) (s : ST 6) : List Tm := open Classical in if h : ∃ t : RT 6, RR M0 W 6 t (.int .i64 (ST.pe 6 s).lv) (.bool (ST.pe 6 s).b) (.slice (ST.pe 6 s).a (ST.pe 6 s).n (ST.pe 6 s).p) (.slice (ST.pe 6 s).ka (ST.pe 6 s).kn (ST.pe 6 s).kp) ∧ TB 6 t ∧ dlen (nrm (terms 6 t)) ≤ 5 ∧ (∀ s ∈ terms 6 t, ∀ k, s.2.get k ≤ 66) then terms 6 h.choose else []
theorem tmS_spec {W : World} {s : ST 6} (hP : PTs W 6 s) (h : 0 ≤ roomB 4 6 s 40) : ∃ t : RT 6, RR M0 W 6 t (.int .i64 (ST.pe 6 s).lv) (.bool (ST.pe 6 s).b) (.slice (ST.pe 6 s).a (ST.pe 6 s).n (ST.pe 6 s).p) (.slice (ST.pe 6 s).ka (ST.pe 6 s).kn (ST.pe 6 s).kp) ∧ TB 6 t ∧ dlen (nrm (tmS W s)) ≤ 5 ∧ Deg 66 (tmS W s) ∧ terms 6 t = tmS W s := by
 obtain ⟨t, h1, h2⟩ := PTs.tree W 4 (by omega) 6 s 40 hP (by omega) h
 have hb := roomB_bd 4 6 s 40 (by omega)
 obtain ⟨h3, h4, h5⟩ := room_dl h2 (by omega)
 have hex : ∃ t : RT 6, RR M0 W 6 t (.int .i64 (ST.pe 6 s).lv) (.bool (ST.pe 6 s).b) (.slice (ST.pe 6 s).a (ST.pe 6 s).n (ST.pe 6 s).p) (.slice (ST.pe 6 s).ka (ST.pe 6 s).kn (ST.pe 6 s).kp) ∧ TB 6 t ∧ dlen (nrm (terms 6 t)) ≤ 5 ∧ (∀ s ∈ terms 6 t, ∀ k, s.2.get k ≤ 66) := ⟨t, h1, h3, h4, h5⟩
 have e : tmS W s = terms 6 hex.choose := by unfold tmS; rw [dif_pos hex]
 obtain ⟨g1, g2, g3, g4⟩ := hex.choose_spec
 exact ⟨hex.choose, g1, g2, by rw [e]; exact g3, by rw [e]; exact deg_of_mem g4, e.symm⟩
theorem tmS_pi {W : World} {s : ST 6} (hP : PTs W 6 s) (h : 0 ≤ roomB 4 6 s 40) : PI M0 W (ST.pe 6 s) (tmS W s) := by
 obtain ⟨t, h1, h2, _, _, e⟩ := tmS_spec hP h
 exact ⟨6, t, h1, .inr h2, by rw [e]; exact Sim.refl _⟩
def OkM : (d : Nat) → MT d → Prop
 | 0, _ => False
 | d + 1, m => 0 ≤ roomB 4 6 m.1.s 40 ∧ m.1.n ≤ 80 ∧ ∀ i, i < m.1.n → OkM d (m.2 i)
theorem roomM_lt : ∀ (d : Nat) (m : MT d) (n : Int), 0 ≤ n → roomM d m n ≤ n - 1
 | 0, _, n, h => by unfold roomM; omega
 | d + 1, m, n, h => by
  have key : ∀ i, roomK (fun i k => roomM d (m.2 i) k) i (n - 1) ≤ n - 1 := by
   intro i
   induction i with
   | zero => simp only [roomK]; omega
   | succ i ih =>
    simp only [roomK]
    split
    ·omega
    ·have := roomM_lt d (m.2 i) (roomK (fun i k => roomM d (m.2 i) k) i (n - 1)) (by omega)
     omega
  unfold roomM
  split
  ·omega
  ·exact key _
theorem roomK_dec {f : Nat → Int → Int} {m : Int} {n : Nat} (h : 0 ≤ roomK f n m) (hf : ∀ i, i < n → ∀ q, 0 ≤ q → f i q ≤ q - 1) : ∀ i, i ≤ n → roomK f i m ≤ m - i := by
 intro i
 induction i with
 | zero => intro _; simp only [roomK]; omega
 | succ i ih =>
  intro hi
  have h0 := roomK_all h i (by omega)
  rw [roomK_succ h0]
  have h1 := hf i (by omega) _ h0
  have h2 := ih (by omega)
  omega
theorem okM : ∀ (d : Nat) (m : MT d) (n : Int), 0 ≤ n → n ≤ 80 → 0 ≤ roomM d m n → OkM d m
 | 0, _, _, _, _, h => by unfold roomM at h; omega
 | d + 1, m, n, h0, h8, h => by
  have hE := roomM_s d m n
  by_cases hr : roomB 4 6 m.1.s 40 < 0
  ·rw [hE.trans (if_pos hr)] at h; omega
  rw [hE.trans (if_neg hr)] at h
  have hdec := roomK_dec h (fun i _ q hq => roomM_lt d (m.2 i) q hq)
  have hl := hdec m.1.n (Nat.le_refl _)
  refine ⟨by omega, by omega, fun i hi => ?_⟩
  have h1 := roomK_all h i (by omega)
  have h2 := roomK_all h (i + 1) (by omega)
  rw [roomK_succ h1] at h2
  have h3 := hdec i (by omega)
  exact okM d (m.2 i) _ h1 (by omega) h2
end Go.Proofs.YtodiphjjdheoaaaGreat
