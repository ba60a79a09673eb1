/- cylinderref38.SamePoly, simplify.identical, blank: at polynomials of any form. simplify.identical, blank: at polynomials of any form. -/
import Derived.Test.YtodiphjjdheoaaaGreatLb
set_option linter.unusedVariables false
set_option linter.unusedSimpArgs false

namespace Go.Proofs.YtodiphjjdheoaaaGreat
open Go.RowKit

abbrev RX (M : Nat → Prop) (w : World) (d : Nat) (t : RT d) (x : PE) : Prop := RR M w d t (.int .i64 x.lv) (.bool x.b) (.slice x.a x.n x.p) (.slice x.ka x.kn x.kp)
theorem RX.parts {M : Nat → Prop} {w : World} {d : Nat} {t : RT (d + 1)} {x : PE} (h : RX M w (d + 1) t x) : x.lv = t.1 ∧ IntR M w (.bool x.b) (.slice x.a x.n x.p) t.2.1 ∧ x.kn = t.2.2.1 ∧ x.kn ≤ 1099511627776 ∧
  ∀ i, i < x.kn → ∃ b off u, x.ka = some ⟨b, off, none⟩ ∧ x.kn ≤ x.kp ∧ x.kp ≤ maxLen ∧ b < w.heap.size ∧ KCell w b (off + i * 4) u ∧ RX M w d (t.2.2.2 i) u := by
 have h1 := h.1
 have hf := h.form
 obtain ⟨ka, kp, e3⟩ := hf.2.2.2
 simp only [Value.int.injEq, true_and] at h1
 simp only [Value.slice.injEq] at e3
 obtain ⟨e4, e5, e6⟩ := e3
 refine ⟨h1, h.2.2.1, e5, by rw [e5]; exact h.2.2.2.1, fun i hi => ?_⟩
 have h' := h
 unfold RX at h'
 rw [e5] at h'
 obtain ⟨b, off, g1, g2, g3, g4, e0, e1, e2, e3, c0, c1, c2, c3, hk⟩ := RR.kids h' i (by omega)
 obtain ⟨u, rfl, rfl, rfl, rfl⟩ := RR.pe hk
 exact ⟨b, off, u, g1, by rw [e5]; exact g2, g3, g4, ⟨c0, c1, c2, c3⟩, hk⟩
def SmR (d : Nat) : Prop := ∀ (M : Nat → Prop) (t s : RT d) (x y : PE) (w : World), RX M w d t x → RX M w d s y → Calls Tryz.prog 20 #[.agg (peA x), .agg (peA y)] w fun e w' => e = .returned (.bool (feqB d t s)) ∧ Ext w w'
theorem feqB_false {d : Nat} {t u : RT (d + 1)} (h : ¬ (t.1 = u.1 ∧ riB t.2.1 u.2.1 = true ∧ t.2.2.1 = u.2.2.1 ∧ ∀ i, i < t.2.2.1 → feqB d (t.2.2.2 i) (u.2.2.2 i) = true)) : feqB (d + 1) t u = false := by
 cases hb : feqB (d + 1) t u
 ·rfl
 ·exact absurd (feqB_iff.1 hb) h
set_option maxRecDepth 100000 in
set_option maxHeartbeats 4000000 in
theorem samepR_walk (d : Nat) (ih : SmR d) : SmR (d + 1) := by
 intro M t s x y w h k
 obtain ⟨h1, h2, h3, h4, h5⟩ := h.parts
 obtain ⟨k1, k2, k3, k4, k5⟩ := k.parts
 have HFA : Hid (¬ (x.lv = y.lv ∧ riB t.2.1 s.2.1 = true ∧ x.kn = y.kn ∧ ∀ i, i < x.kn → feqB d (t.2.2.2 i) (s.2.2.2 i) = true) → feqB (d + 1) t s = false) := by
  show _ → _
  rw [h1, k1, h3, k3]; exact feqB_false
 have HTR : Hid (x.lv = y.lv → riB t.2.1 s.2.1 = true → x.kn = y.kn → (∀ i, i < x.kn → feqB d (t.2.2.2 i) (s.2.2.2 i) = true) → feqB (d + 1) t s = true) := by
  show _ → _
  rw [h1, k1, h3, k3]
  exact fun a b c e => feqB_iff.2 ⟨a, b, c, e⟩
 have hE0 : Ext w ((w.alloc (.cells (peA x) 29)).alloc (.cells (peA y) 29)) := ((Ext.refl w).alloc _).alloc _
 have ctr := rf_sameIntR _ _ _ _ t.2.1 s.2.1 _ ⟨h2.1, h2.2.ext hE0⟩ ⟨k2.1, k2.2.ext hE0⟩
 have HK : Hid (∀ i, i < x.kn → i < y.kn → ∃ b off b' off' u v, x.ka = some ⟨b, off, none⟩ ∧ y.ka = some ⟨b', off', none⟩ ∧ x.kn ≤ x.kp ∧ x.kp ≤ maxLen ∧ y.kn ≤ y.kp ∧ y.kp ≤ maxLen ∧ b < w.heap.size ∧ b' < w.heap.size ∧ KCell w b (off + i * 4) u ∧ KCell w b' (off' + i * 4) v ∧
   (∀ W, Ext w W → Calls Tryz.prog 20 #[.agg (peA u), .agg (peA v)] W fun e w' => e = .returned (.bool (feqB d (t.2.2.2 i) (s.2.2.2 i))) ∧ Ext W w')) := fun i hi hj => by
  obtain ⟨b, off, u, a1, a2, a3, a4, a5, a6⟩ := h5 i hi
  obtain ⟨b', off', v, c1, c2, c3, c4, c5, c6⟩ := k5 i hj
  exact ⟨b, off, b', off', u, v, a1, c1, a2, a3, c2, c3, a4, c4, a5, c5, fun W hW => ih M _ _ u v W (RR.ext a6 hW) (RR.ext c6 hW)⟩
 have HBX := Lib.hid ((Blk.of_arr w (peA x) 29 4 rfl).alloc (.cells (peA y) 29))
 have b1 := Blk.of_arr (w.alloc (.cells (peA x) 29)) (peA y) 29 4 rfl
 simp only [World.size_alloc] at b1
 have HBY := Lib.hid b1
 have HE0 := Lib.hid hE0
 clear b1 h1 h2 h3 h5 k1 k2 k3 k5 h k ih hE0
 obtain ⟨F, hF⟩ : ∃ F : Nat → Bool, ∀ i, feqB d (t.2.2.2 i) (s.2.2.2 i) = F i := ⟨_, fun _ => rfl⟩
 simp only [hF] at HK HFA HTR
 generalize feqB (d + 1) t s = ans at *
 generalize riB t.2.1 s.2.1 = rb at *
 clear hF
 by_cases hlv : ¬ x.lv = y.lv
 ·have hd : (x.lv != y.lv) = true := by simpa using hlv
  have HR : Hid (ans = false) := HFA.out fun hq => hlv hq.1
  clear hlv HK HFA HTR HBX HBY ctr
  go_enter Tryz.func20, Tryz.ntmps20
  go_wp2
  go_ret
  exact ⟨by rw [HR.out]; rfl, HE0.out⟩
 have hlv' : x.lv = y.lv := Decidable.not_not.1 hlv
 have hd : (x.lv != y.lv) = false := by simpa using hlv'
 by_cases hn : ¬ x.kn = y.kn
 ·have hd2 : ((x.kn : Int) != (y.kn : Int)) = true := by simp; omega
  have HR : Hid (ans = false) := HFA.out fun hq => hn hq.2.2.1
  clear hn hlv hlv' HK HFA HTR HBX HBY ctr
  go_enter Tryz.func20, Tryz.ntmps20
  go_wp2
  go_ret
  exact ⟨by rw [HR.out]; rfl, HE0.out⟩
 have hn' : x.kn = y.kn := Decidable.not_not.1 hn
 have hd2 : ((x.kn : Int) != (y.kn : Int)) = false := by simp; omega
 clear hlv hn
 cases rb
 ·have HR : Hid (ans = false) := HFA.out fun hq => absurd hq.2.1 (by decide)
  have CTR := Lib.hid ctr
  clear ctr hn' hlv' HK HFA HTR HBX HBY
  go_enter Tryz.func20, Tryz.ntmps20
  go_wp2_with (fail)
  refine (CTR.out).mono ?_
  rintro e w1 ⟨rfl, he⟩
  go_wp2
  go_ret
  exact ⟨by rw [HR.out]; rfl, HE0.out.trans he⟩
 have CTR := Lib.hid ctr
 have HAL : Hid ((∀ i, i < x.kn → F i = true) → ans = true) := HTR.out hlv' rfl hn'
 have HNO : Hid (∀ i, i < x.kn → F i = false → ans = false) := fun i hi hf => HFA.out fun hq => by rw [hq.2.2.2 i hi] at hf; cases hf
 clear ctr hlv' hd2 HFA HTR
 obtain ⟨lv, bb, a, n, p, ka, kn, kp⟩ := x
 obtain ⟨lv', bb', a', n0', p', ka', kn', kp'⟩ := y
 simp only at *
 subst hn'
 have hd2 : ((kn : Int) != (kn : Int)) = false := by simp
 have HK2 : Hid (∀ i, i < kn → ∃ b off b' off' u v, ka = some ⟨b, off, none⟩ ∧ ka' = some ⟨b', off', none⟩ ∧ kn ≤ kp ∧ kp ≤ maxLen ∧ kn ≤ kp' ∧ kp' ≤ maxLen ∧ b < w.heap.size ∧ b' < w.heap.size ∧ KCell w b (off + i * 4) u ∧ KCell w b' (off' + i * 4) v ∧
   (∀ W, Ext w W → Calls Tryz.prog 20 #[.agg (peA u), .agg (peA v)] W fun e w' => e = .returned (.bool (F i)) ∧ Ext W w')) := fun i hi => HK.out i hi hi
 clear HK
 go_enter Tryz.func20, Tryz.ntmps20
 go_wp2_with (fail)
 refine (CTR.out).mono ?_
 rintro e w1 ⟨rfl, he⟩
 have HW1 := Lib.hid he
 have x3 := (HBX.out.ext he).cell (i := 3) (by omega)
 simp only [arr] at x3
 have x3 : w1.cell? ⟨w.heap.size, 3, none⟩ = some (.slice ka kn kp) := x3
 clear he
 go_wp2
 clear x3
 go_loopw [31] (fun i wr => ∃ k : Nat, k ≤ kn ∧ i = .int .i64 k ∧ Hid (∀ i, i < k → F i = true) ∧ Hid (Ext w1 wr)) (fun i _ => kn - (intOf i).toNat)
 case atStart => exact ⟨0, Nat.zero_le _, rfl, (fun i hi => absurd hi (Nat.not_lt_zero _)), Ext.refl _⟩
 case round =>
  obtain ⟨k, hk, rfl, HQ, HER⟩ := hrel
  have hE1 := HW1.out.trans HER.out
  have hbx := HBX.out.ext hE1
  have hby := HBY.out.ext hE1
  have y3 := hbx.cell (i := 3) (by omega)
  have u3 := hby.cell (i := 3) (by omega)
  simp only [arr] at y3 u3
  have hl1 := hbx.lt
  have hl2 := hby.lt
  have HEW := Lib.hid (HE0.out.trans hE1)
  have hsz := HEW.out.size
  clear hbx hby hE1
  by_cases hlt : k < kn
  ·obtain ⟨b, off, b', off', u, t, rfl, rfl, hc1, hc2, hc3, hc4, hb, hb', hu, ht, hctr⟩ := HK2.out k hlt
   obtain ⟨k0, k1, k2, k3⟩ := hu.ext hb HEW.out
   obtain ⟨t0, t1, t2, t3⟩ := ht.ext hb' HEW.out
   have hbw : b < wr.heap.size := by omega
   have hbw' : b' < wr.heap.size := by omega
   have hctr2 := hctr wr.drew (HEW.out.trans (Ext.refl wr).drew)
   have hk0 : (0 : Int) ≤ (k : Int) := Int.natCast_nonneg _
   have hkk : (k : Int) < (kn : Int) := by omega
   have HLT := Lib.hid hlt
   clear hctr hu ht
   cases hsk : F k
   ·rw [hsk] at hctr2
    have CT2 := Lib.hid hctr2
    have HR := Lib.hid (HNO.out k HLT.out hsk)
    clear hctr2 hsk
    go_wp2
    go_still_tail 10, (by kernel_rfl)
    change wpList _ _ _ _ _ wr.drew
    go_wp2_with (fail)
    refine (CT2.out).mono ?_
    rintro e w2 ⟨rfl, he⟩
    have HF := Lib.hid (HEW.out.trans (((Ext.refl wr).drew).trans he))
    clear he
    go_wp2
    go_ret
    exact ⟨by rw [HR.out]; rfl, HF.out⟩
   ·rw [hsk] at hctr2
    have CT2 := Lib.hid hctr2
    have HQ2 : Hid (∀ i, i < k + 1 → F i = true) := fun i hi => if h : i < k then HQ.out i h else by
     have : i = k := by omega
     subst this; exact hsk
    clear hctr2 hsk
    go_wp2
    go_still_tail 10, (by kernel_rfl)
    change wpList _ _ _ _ _ wr.drew
    go_wp2_with (fail)
    refine (CT2.out).mono ?_
    rintro e w2 ⟨rfl, he⟩
    have HF := Lib.hid (HER.out.trans (((Ext.refl wr).drew).trans he))
    clear he
    go_wp2
    go_roundw
    case rel => exact ⟨k + 1, HLT.out, by go_num, HQ2, HF⟩
    case measure => simp [intOf]; omega
  ·have hkn : k = kn := by omega
   subst hkn
   have HR := Lib.hid (HAL.out HQ.out)
   go_wp2
   go_ret
   exact ⟨by rw [HR.out]; rfl, HEW.out⟩
theorem rf_samePolyR : ∀ d, SmR d
 | 0 => fun _ _ _ _ _ _ h => h.elim
 | d + 1 => samepR_walk d (rf_samePolyR d)
theorem dfl_rx (M : Nat → Prop) (w : World) (d : Nat) : RX M w (d + 1) (dfl (d + 1)) PE.z := ⟨rfl, ⟨show (-9223372036854775808 : Int) ≤ 0 by decide, show (0 : Int) ≤ 9223372036854775807 by decide⟩, ⟨rfl, NatR.nil M w⟩, Nat.zero_le _, .inl ⟨⟨none, 0, rfl, Nat.zero_le _, fun _ => rfl⟩, rfl⟩⟩
end Go.Proofs.YtodiphjjdheoaaaGreat

namespace Go.Proofs.YtodiphjjdheoaaaGreat
open Go.RowKit

def KR (M : Nat → Prop) (w : World) (d : Nat) (a : Option Addr) (n p : Nat) (T : Nat → RT d) : Prop := n ≤ 1099511627776 ∧ ∀ i, i < n → ∃ b off u, a = some ⟨b, off, none⟩ ∧ n ≤ p ∧ p ≤ maxLen ∧ b < w.heap.size ∧ KCell w b (off + i * 4) u ∧ RX M w d (T i) u
theorem KR.ext {M : Nat → Prop} {w w' : World} {d : Nat} {a : Option Addr} {n p : Nat} {T : Nat → RT d} (h : KR M w d a n p T) (he : Ext w w') : KR M w' d a n p T := by
 refine ⟨h.1, fun i hi => ?_⟩
 obtain ⟨b, off, u, h1, h2, h3, h4, h5, h6⟩ := h.2 i hi
 exact ⟨b, off, u, h1, h2, h3, Nat.lt_of_lt_of_le h4 he.size, h5.ext h4 he, RR.ext h6 he⟩
def kfB (n m : Nat) (F : Nat → Bool) : Bool := n == m && (List.range n).all F
theorem kfB_iff {n m : Nat} {F : Nat → Bool} : kfB n m F = true ↔ n = m ∧ ∀ i, i < n → F i = true := by
 unfold kfB
 simp only [Bool.and_eq_true, beq_iff_eq, List.all_eq_true, List.mem_range]
theorem kfB_false {n m : Nat} {F : Nat → Bool} (h : ¬ (n = m ∧ ∀ i, i < n → F i = true)) : kfB n m F = false := by
 cases hb : kfB n m F
 ·rfl
 ·exact absurd (kfB_iff.1 hb) h
theorem feqB_parts {d : Nat} (t s : RT (d + 1)) : feqB (d + 1) t s = (decide (t.1 = s.1) && (t.2.1.neg == s.2.1.neg && (deqB t.2.1.n s.2.1.n t.2.1.dg s.2.1.dg && kfB t.2.2.1 s.2.2.1 fun i => feqB d (t.2.2.2 i) (s.2.2.2 i)))) := by
 rw [show feqB (d + 1) t s = (decide (t.1 = s.1) && ((t.2.1.neg == s.2.1.neg && deqB t.2.1.n s.2.1.n t.2.1.dg s.2.1.dg) && kfB t.2.2.1 s.2.2.1 fun i => feqB d (t.2.2.2 i) (s.2.2.2 i))) from rfl, Bool.and_assoc]
theorem new_px (w : World) (x : PE) : KCell (w.alloc (.cells (peA x) 29)) w.heap.size 0 x := by
 have hB := Blk.of_arr w (peA x) 29 4 rfl
 exact ⟨hB.cell (i := 0) (by omega), hB.cell (i := 1) (by omega), hB.cell (i := 2) (by omega), hB.cell (i := 3) (by omega)⟩
theorem KCell.e {w w' : World} {b o : Nat} {x : PE} (h : KCell w b o x) (he : Ext w w') : KCell w' b o x := h.ext (World.block_lt_of_cell? _ _ h.1) he
theorem new_px2 (w : World) (x y : PE) : KCell ((w.alloc (.cells (peA x) 29)).alloc (.cells (peA y) 29)) w.heap.size 0 x ∧ KCell ((w.alloc (.cells (peA x) 29)).alloc (.cells (peA y) 29)) (w.heap.size + 1) 0 y := by
 have h2 := new_px (w.alloc (.cells (peA x) 29)) y
 simp only [World.size_alloc] at h2
 exact ⟨(new_px w x).e ((Ext.refl _).alloc _), h2⟩
def IdR (d : Nat) : Prop := ∀ (M : Nat → Prop) (t s : RT d) (x y : PE) (w : World), RX M w d t x → RX M w d s y → Calls Tryz.prog 115 #[.agg (peA x), .agg (peA y)] w fun e w' => e = .returned (.bool (feqB d t s)) ∧ Ext w w'
set_option maxRecDepth 100000 in
set_option maxHeartbeats 8000000 in
theorem eqfR_walk (d : Nat) (ih : IdR d) (M : Nat → Prop) (a a' : Option Addr) (n p n' p' : Nat) (T S : Nat → RT d) (w : World) (h : KR M w d a n p T) (h' : KR M w d a' n' p' S) :
  Calls Tryz.prog 153 #[.slice a n p, .slice a' n' p', .func (.func 115) #[] #[]] w fun e w' => e = .returned (.bool (kfB n n' fun i => feqB d (T i) (S i))) ∧ Ext w w' := by
 obtain ⟨hn1, hk⟩ := h
 obtain ⟨hn2, hk'⟩ := h'
 have HK : Hid (∀ i, i < n → i < n' → ∃ b off b' off' u v, a = some ⟨b, off, none⟩ ∧ a' = some ⟨b', off', none⟩ ∧ n ≤ p ∧ p ≤ maxLen ∧ n' ≤ p' ∧ p' ≤ maxLen ∧ b < w.heap.size ∧ b' < w.heap.size ∧ KCell w b (off + i * 4) u ∧ KCell w b' (off' + i * 4) v ∧
   (∀ W, Ext w W → Calls Tryz.prog 115 #[.agg (peA u), .agg (peA v)] W fun e w' => e = .returned (.bool (feqB d (T i) (S i))) ∧ Ext W w')) := fun i hi hj => by
  obtain ⟨b, off, u, a1, a2, a3, a4, a5, a6⟩ := hk i hi
  obtain ⟨b', off', v, c1, c2, c3, c4, c5, c6⟩ := hk' i hj
  exact ⟨b, off, b', off', u, v, a1, c1, a2, a3, c2, c3, a4, c4, a5, c5, fun W hW => ih M _ _ u v W (RR.ext a6 hW) (RR.ext c6 hW)⟩
 obtain ⟨F, hF⟩ : ∃ F : Nat → Bool, ∀ i, feqB d (T i) (S i) = F i := ⟨_, fun _ => rfl⟩
 simp only [hF] at HK ⊢
 have HE := Lib.hid (Ext.refl w)
 clear hF hk hk' ih
 by_cases hn : n = n'
 rotate_left
 ·have hnI : ((n : Int) != (n' : Int)) = true := by simp; omega
  have HF : Hid (kfB n n' F = false) := kfB_false fun e => hn e.1
  clear HK
  go_enter Tryz.func153, Tryz.ntmps153
  go_wp2
  go_ret
  exact ⟨by rw [HF.out]; rfl, HE.out⟩
 subst hn
 have hnI : ((n : Int) != (n : Int)) = false := by simp
 have HAL : Hid ((∀ i, i < n → F i = true) → kfB n n F = true) := fun hq => kfB_iff.2 ⟨rfl, hq⟩
 have HNO : Hid (∀ i, i < n → F i = false → kfB n n F = false) := fun i hi hf => kfB_false fun hq => by rw [hq.2 i hi] at hf; cases hf
 generalize kfB n n F = ans at *
 go_enter Tryz.func153, Tryz.ntmps153
 go_wp2
 go_loopw [17] (fun iv wr => ∃ (j : Nat), j ≤ n ∧ iv = .int .i64 (j : Int) ∧ Hid (∀ i, i < j → F i = true) ∧ Hid (Ext w wr)) (fun iv _ => n - (intOf iv).toNat)
 case atStart => exact ⟨0, Nat.zero_le _, rfl, fun i hi => absurd hi (Nat.not_lt_zero _), HE.out⟩
 case round =>
  obtain ⟨j, hj, rfl, HQ, HX⟩ := hrel
  by_cases hlt : j < n
  ·obtain ⟨b, off, b', off', z, z', rfl, rfl, g1, g2, g3, g4, hb, hb', hu, hv, hct⟩ := HK.out j hlt hlt
   have hX5 := HX.out.alloc (.cells (peA z) 29)
   obtain ⟨e0, e1, e2, e3⟩ := hu.ext hb HX.out
   obtain ⟨q0, q1, q2, q3⟩ := hv.ext hb' hX5
   have hX := hX5.alloc (.cells (peA z') 29)
   obtain ⟨⟨x0, x1, x2, x3⟩, y0, y1, y2, y3⟩ := new_px2 wr z z'
   have CS := Lib.hid (hct _ hX)
   have HX2 := Lib.hid hX
   unfold maxLen at g2 g4
   have hltI : (j : Int) < (n : Int) := by omega
   clear hct hu hv hX hX5
   generalize hW5 : wr.alloc (.cells (peA z) 29) = W5 at *
   have HW5 := Lib.hid hW5
   generalize hW6 : W5.alloc (.cells (peA z') 29) = W6 at *
   have HW6 := Lib.hid hW6
   have HS5 : Hid (W5.heap.size = wr.heap.size + 1) := by show _ = _; rw [← hW5]; simp
   have hbw : b < wr.heap.size := Nat.lt_of_lt_of_le hb HX.out.size
   clear hW5 hW6
   go_upto_region 6 with (fail)
   rw [HW5.out]
   go_upto_region 7 with (fail)
   rw [HW6.out, HS5.out]
   go_wp2_with (fail)
   refine CS.out.mono ?_
   rintro e w2 ⟨rfl, he2⟩
   have HX3 := Lib.hid (HX2.out.trans he2)
   have HLT := Lib.hid hlt
   clear he2 CS HX2 e0 e1 e2 e3 x0 x1 x2 x3 y0 y1 y2 y3 q0 q1 q2 q3
   cases hs : F j
   ·have HF := Lib.hid (HNO.out j hlt hs)
    clear hs HQ
    go_wp2
    go_ret
    exact ⟨by rw [HF.out]; rfl, HX3.out⟩
   ·have HQ2 : Hid (∀ i, i < j + 1 → F i = true) := fun i hi => by
     by_cases hij : i = j
     ·rw [hij]; exact hs
     ·exact HQ.out i (by omega)
    clear hs HQ
    go_wp2
    go_roundw
    case rel => exact ⟨j + 1, HLT.out, by go_num, HQ2.out, HX3.out⟩
    case measure => have := HLT.out; simp [intOf]; omega
  ·obtain rfl : j = n := by omega
   have hge : ¬ (j : Int) < (j : Int) := by omega
   have HF := Lib.hid (HAL.out HQ.out)
   clear HQ
   go_wp2
   go_ret
   exact ⟨by rw [HF.out]; rfl, HX.out⟩
set_option maxRecDepth 100000 in
set_option maxHeartbeats 8000000 in
theorem identR_walk (d : Nat) (ih : IdR d) : IdR (d + 1) := by
 intro M t s x y w h k
 obtain ⟨h1, h2, h3, h4, h5⟩ := h.parts
 obtain ⟨k1, k2, k3, k4, k5⟩ := k.parts
 have hb1 : x.b = t.2.1.neg := by have := h2.1; simpa using this
 have hb2 : y.b = s.2.1.neg := by have := k2.1; simpa using this
 have hX := ((Ext.refl w).alloc (.cells (peA x) 29)).alloc (.cells (peA y) 29)
 have hB := new_px2 w x y
 have CD : Hid (∀ W, Ext w W → Calls Tryz.prog 152 #[.slice x.a x.n x.p, .slice y.a y.n y.p] W fun e' w' => e' = .returned (.bool (deqB t.2.1.n s.2.1.n t.2.1.dg s.2.1.dg)) ∧ Ext W w') := fun W he => sl_eqDigits _ _ _ _ _ _ W (h2.2.ext he) (k2.2.ext he)
 have CK : Hid (∀ W, Ext w W → Calls Tryz.prog 153 #[.slice x.ka x.kn x.kp, .slice y.ka y.kn y.kp, .func (.func 115) #[] #[]] W fun e w' => e = .returned (.bool (kfB x.kn y.kn fun i => feqB d (t.2.2.2 i) (s.2.2.2 i))) ∧ Ext W w') := fun W he => eqfR_walk d ih M x.ka y.ka x.kn x.kp y.kn y.kp t.2.2.2 s.2.2.2 W (KR.ext ⟨h4, h5⟩ he) (KR.ext ⟨k4, k5⟩ he)
 have HQ : feqB (d + 1) t s = (decide (x.lv = y.lv) && (x.b == y.b && (deqB t.2.1.n s.2.1.n t.2.1.dg s.2.1.dg && kfB x.kn y.kn fun i => feqB d (t.2.2.2 i) (s.2.2.2 i)))) := by
  rw [h1, k1, hb1, hb2, h3, k3]
  exact feqB_parts t s
 generalize feqB (d + 1) t s = ANS at *
 subst HQ
 generalize deqB t.2.1.n s.2.1.n t.2.1.dg s.2.1.dg = D at *
 generalize (kfB x.kn y.kn fun i => feqB d (t.2.2.2 i) (s.2.2.2 i)) = KB at *
 clear h1 h2 h3 h4 h5 k1 k2 k3 k4 k5 hb1 hb2 h k ih
 generalize hW : (w.alloc (.cells (peA x) 29)).alloc (.cells (peA y) 29) = W at *
 have HW := Lib.hid hW
 have HX := Lib.hid hX
 have HB := Lib.hid hB
 clear hW hX hB
 obtain ⟨⟨x0, x1, x2, x3⟩, y0, y1, y2, y3⟩ := HB.out
 by_cases hlv : x.lv = y.lv
 rotate_left
 ·have hl : (x.lv == y.lv) = false := beq_eq_false_iff_ne.2 hlv
  have HF : Hid ((decide (x.lv = y.lv) && (x.b == y.b && (D && KB))) = false) := by show _ = _; rw [decide_eq_false hlv]; rfl
  clear hlv CD CK
  go_enter Tryz.func115, Tryz.ntmps115
  go_upto_region 1 with (fail)
  rw [HW.out]
  generalize w.heap.size = g at *
  go_wp2
  go_ret
  exact ⟨by rw [HF.out]; rfl, HX.out⟩
 have hl : (x.lv == y.lv) = true := beq_iff_eq.2 hlv
 rw [decide_eq_true hlv, Bool.true_and]
 clear hlv
 by_cases hbb : x.b = y.b
 rotate_left
 ·have hl2 : (x.b == y.b) = false := beq_eq_false_iff_ne.2 hbb
  rw [hl2, Bool.false_and]
  clear hbb CD CK
  go_enter Tryz.func115, Tryz.ntmps115
  go_upto_region 1 with (fail)
  rw [HW.out]
  generalize w.heap.size = g at *
  go_wp2
  go_ret
  exact ⟨rfl, HX.out⟩
 have hl2 : (x.b == y.b) = true := beq_iff_eq.2 hbb
 rw [hl2, Bool.true_and]
 clear hbb
 go_enter Tryz.func115, Tryz.ntmps115
 go_upto_region 1 with (fail)
 rw [HW.out]
 generalize w.heap.size = g at *
 go_wp2_with (fail)
 refine (CD.out _ HX.out).mono ?_
 rintro e w2 ⟨rfl, he2⟩
 have HX2 := Lib.hid (HX.out.trans he2)
 obtain ⟨⟨x0, x1, x2, x3⟩, y0, y1, y2, y3⟩ : KCell w2 g 0 x ∧ KCell w2 (g + 1) 0 y := ⟨HB.out.1.e he2, HB.out.2.e he2⟩
 clear he2 CD HB
 cases D
 ·go_wp2
  go_ret
  exact ⟨rfl, HX2.out⟩
 go_wp2_with (fail)
 refine (CK.out _ HX2.out).mono ?_
 rintro e w3 ⟨rfl, he3⟩
 have HX3 := Lib.hid (HX2.out.trans he3)
 clear he3 CK
 go_wp2
 go_ret
 exact ⟨by rw [Bool.true_and]; rfl, HX3.out⟩
theorem si_identical : ∀ d, IdR d
 | 0 => fun _ _ _ _ _ _ h => h.elim
 | d + 1 => identR_walk d (si_identical d)
set_option maxRecDepth 100000 in
set_option maxHeartbeats 2000000 in
theorem si_blank (M : Nat → Prop) (t : RT 6) (x : PE) (w : World) (h : RX M w 6 t x) : Calls Tryz.prog 65 #[.agg (peA x)] w fun e w' => e = .returned (.bool (feqB 6 t (dfl 6))) ∧ Ext w w' := by
 have HX := Lib.hid ((Ext.refl w).alloc (.cells (peA x) 29))
 have CI : Hid (∀ W, Ext w W → Calls Tryz.prog 115 #[.agg (peA x), .agg (peA PE.z)] W fun e w' => e = .returned (.bool (feqB 6 t (dfl 6))) ∧ Ext W w') := fun W he => si_identical 6 M t (dfl 6) x PE.z W (RR.ext h he) (dfl_rx M W 5)
 obtain ⟨x0, x1, x2, x3⟩ := new_px w x
 generalize feqB 6 t (dfl 6) = ans at *
 clear h
 generalize hW : w.alloc (.cells (peA x) 29) = W at *
 have HW := Lib.hid hW
 clear hW
 go_enter Tryz.func65, Tryz.ntmps65
 go_upto_region 1 with (fail)
 rw [HW.out]
 generalize w.heap.size = g at *
 go_wp2_with (fail)
 refine (CI.out _ HX.out).mono ?_
 rintro e w2 ⟨rfl, he2⟩
 have HF := Lib.hid (HX.out.trans he2)
 clear he2
 go_wp2
 go_ret
 exact ⟨rfl, HF.out⟩
end Go.Proofs.YtodiphjjdheoaaaGreat
