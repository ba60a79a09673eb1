/- The polynomials of a matrix: prenex.appendPolys, Polys. prenex.appendPolys, Polys: the walk. prenex.Polys, simplify.Atoms. -/
import Derived.Test.YtodiphjjdheoaaaGreatHi
import Derived.Test.YtodiphjjdheoaaaGreatNj
import Derived.Test.YtodiphjjdheoaaaGreatDd
set_option linter.unusedVariables false
set_option linter.unusedSimpArgs false

namespace Go.Proofs.YtodiphjjdheoaaaGreat
open Go.RowKit

noncomputable def polM (W : World) : (d : Nat) → MT d → List (List Tm)
 | 0, _ => []
 | d + 1, m => if m.1.kd = 2 then [tmS W m.1.s] else if m.1.kd = 3 ∨ m.1.kd = 4 then (List.range m.1.n).flatMap fun i => polM W d (m.2 i) else []
theorem polM_s (W : World) (d : Nat) (m : MT (d + 1)) : polM W (d + 1) m = if m.1.kd = 2 then [tmS W m.1.s] else if m.1.kd = 3 ∨ m.1.kd = 4 then (List.range m.1.n).flatMap fun i => polM W d (m.2 i) else [] := by
 conv => lhs; unfold polM
theorem fm_succ {α : Type} (f : Nat → List α) (i : Nat) : (List.range (i + 1)).flatMap f = (List.range i).flatMap f ++ f i := by
 rw [List.range_succ, List.flatMap_append]
 simp
theorem fm_mono {α : Type} (f : Nat → List α) {i : Nat} : ∀ {n : Nat}, i ≤ n → ((List.range i).flatMap f).length ≤ ((List.range n).flatMap f).length
 | 0, h => by rw [show i = 0 by omega]; exact Nat.le_refl _
 | n + 1, h => by
  by_cases e : i = n + 1
  ·rw [e]; exact Nat.le_refl _
  ·rw [fm_succ f n, List.length_append]
   exact Nat.le_trans (fm_mono f (show i ≤ n by omega)) (Nat.le_add_right _ _)
theorem polM_len (W : World) : ∀ (d : Nat) (m : MT d) (n : Int), 0 ≤ n → 0 ≤ roomM d m n → ((polM W d m).length : Int) ≤ n - roomM d m n
 | 0, _, _, _, h => by unfold roomM at h; omega
 | d + 1, m, n, h0, h => by
  obtain ⟨y, k⟩ := m
  have hE := roomM_s d (y, k) n
  change roomM (d + 1) (y, k) n = if roomB 4 6 y.s 40 < 0 then -1 else roomK (fun i q => roomM d (k i) q) y.n (n - 1) at hE
  by_cases hr : roomB 4 6 y.s 40 < 0
  ·rw [hE.trans (if_pos hr)] at h; omega
  rw [hE.trans (if_neg hr)] at h ⊢
  have hP := polM_s W d (y, k)
  change polM W (d + 1) (y, k) = if y.kd = 2 then [tmS W y.s] else if y.kd = 3 ∨ y.kd = 4 then (List.range y.n).flatMap fun i => polM W d (k i) else [] at hP
  have hdec := roomK_dec h (fun i _ q hq => roomM_lt d (k i) q hq)
  have hl := hdec y.n (Nat.le_refl _)
  rw [hP]
  have hpl : ∀ i q, 0 ≤ q → 0 ≤ roomM d (k i) q → ((polM W d (k i)).length : Int) ≤ q - roomM d (k i) q := fun i q h1 h2 => polM_len W d (k i) q h1 h2
  generalize hf : (fun i q => roomM d (k i) q) = f at *
  have hfi : ∀ i q, roomM d (k i) q = f i q := fun i q => by rw [← hf]
  generalize hg : (fun i => polM W d (k i)) = g at *
  have hgi : ∀ i, polM W d (k i) = g i := fun i => by rw [← hg]
  split
  ·simp; omega
  split
  ·have key : ∀ i, i ≤ y.n → ((((List.range i).flatMap g).length : Nat) : Int) ≤ (n - 1) - roomK f i (n - 1) := by
    intro i
    induction i with
    | zero => intro _; simp [roomK]
    | succ i ih =>
     intro hi
     have h1 := roomK_all h i (by omega)
     have h2 := roomK_all h (i + 1) (by omega)
     rw [roomK_succ h1] at h2 ⊢
     have h3 := hpl i _ h1 (by rw [hfi]; exact h2)
     rw [hfi, hgi] at h3
     have h4 := ih (by omega)
     rw [fm_succ, List.length_append]
     omega
   have := key y.n (Nat.le_refl _)
   omega
  ·simp; omega
def PRow (base : Nat) (w : World) (v : Value) (GL : List (List Tm)) : Prop := ∃ xx, Own w base 29 4 v GL.length (px xx) ∧ ∀ j, j < GL.length → CRx (MR M0 v) w 4 (xx j) (GL.getD j [])
theorem PRow.ext {base : Nat} {w w' : World} {v : Value} {GL : List (List Tm)} (h : PRow base w v GL) (he : Ext w w') : PRow base w' v GL := by
 obtain ⟨xx, h1, h2⟩ := h
 exact ⟨xx, h1.ext he, fun j hj => (h2 j hj).ext he⟩
theorem PRow.lt {base : Nat} {w : World} {v : Value} {GL : List (List Tm)} (h : PRow base w v GL) : ∀ g, v.ownBlock = some g → base ≤ g ∧ g < w.heap.size := by
 obtain ⟨xx, h1, h2⟩ := h
 exact h1.lt
theorem PRow.mb {base : Nat} {w : World} {v : Value} {GL : List (List Tm)} (h : PRow base w v GL) : Mb (MR M0 v) w := fun g hg => hg.elim (fun h => h.elim) fun h' => (h.lt g h').2
theorem PRow.form {base : Nat} {w : World} {v : Value} {GL : List (List Tm)} (h : PRow base w v GL) : ∃ a p, v = .slice a GL.length p := by
 obtain ⟨xx, h1, h2⟩ := h
 exact h1.form
theorem PRow.form2 {base : Nat} {w : World} {v : Value} {GL : List (List Tm)} (h : PRow base w v GL) : ∃ a n p, v = .slice a n p := by
 obtain ⟨a, p, e⟩ := h.form
 exact ⟨a, _, p, e⟩
theorem PRow.form3 {base : Nat} {w : World} {v : Value} {GL : List (List Tm)} (h : PRow base w v GL) : ∃ a n p, v = .slice a n p ∧ n = GL.length := by
 obtain ⟨a, p, e⟩ := h.form
 exact ⟨a, _, p, e, rfl⟩
theorem PRow.nil (base : Nat) (w : World) : PRow base w (.slice none 0 0) [] := ⟨fun _ => PE.z, Own.nil _ _ _ _ _, fun j hj => absurd hj (Nat.not_lt_zero _)⟩
theorem PRow.krow {base : Nat} {w : World} {v : Value} {GL : List (List Tm)} (h : PRow base w v GL) (hc : GL.length ≤ 1000000) : KRow M0 w 4 v GL.length fun j => GL.getD j [] := by
 obtain ⟨xx, h1, h2⟩ := h
 exact Own.toK h1 (fun i hi => (h2 i hi).more fun b hb => .inl (.inl hb)) (fun g hg hm => hm) (by omega)
theorem PRow.push {base : Nat} {w w' : World} {va : Option Addr} {vc : Nat} {GL : List (List Tm)} {xx : Nat → PE} {y : PE} {l : List Tm} {g cap : Nat} (hx : ∀ j, j < GL.length → CRx (MR M0 (.slice va GL.length vc)) w 4 (xx j) (GL.getD j [])) (hy : CRx (MR M0 (.slice va GL.length vc)) w 4 y l)
  (hO : Own w' base 29 4 (.slice (some ⟨g, 0, none⟩) (GL.length + 1) cap) (GL.length + 1) (app (px xx) (GL.length * 4) (arr (peA y)))) (hg : w.grownBy w' (Value.slice va GL.length vc).ownBlock) (hat : (Value.slice va GL.length vc).ownBlock = some g ∨ w.heap.size ≤ g) :
  PRow base w' (.slice (some ⟨g, 0, none⟩) (GL.length + 1) cap) (GL ++ [l]) := by
 refine ⟨snoc xx GL.length y, ?_, fun j hj => ?_⟩
 ·rw [List.length_append]
  exact hO.congr fun j hj => px_app xx GL.length y j hj
 ·rw [List.length_append] at hj
  by_cases hjn : j = GL.length
  ·subst hjn
   rw [snoc_at, show (GL ++ [l]).getD GL.length [] = l by simp]
   exact keep_grownC hy hg hat
  ·have hj : j < GL.length := by have : j < GL.length + 1 := hj; omega
   rw [snoc_lt _ _ _ _ hj, show (GL ++ [l]).getD j [] = GL.getD j [] by simp [List.getD_eq_getElem?_getD, List.getElem?_append_left hj]]
   exact keep_grownC (hx j hj) hg hat
def RetAP (base : Nat) (GL L : List (List Tm)) (w : World) (e : Ending) (w' : World) : Prop := ∃ v', e = .returned v' ∧ PRow base w' v' (GL ++ L) ∧ w.heap.size ≤ w'.heap.size ∧ ∀ U : World, U.heap.size ≤ base → Ext U w → Ext U w'
end Go.Proofs.YtodiphjjdheoaaaGreat

namespace Go.Proofs.YtodiphjjdheoaaaGreat
open Go.RowKit

theorem kdOf_at {k z : Int} (h : k = z) (h1 : 0 ≤ z) (h2 : z ≤ 4) : kdOf k = z := by unfold kdOf; rw [if_neg (by omega), if_neg (by omega)]; exact h
theorem kdOf_ne {k : Int} (h2 : k ≠ 2) (h3 : k ≠ 3) (h4 : k ≠ 4) : kdOf k ≠ 2 ∧ kdOf k ≠ 3 ∧ kdOf k ≠ 4 := by
 unfold kdOf
 split
 ·omega
 ·split <;> omega
set_option maxRecDepth 100000 in
set_option maxHeartbeats 16000000 in
theorem pr_append : ∀ (d : Nat) (m : MT d) (base : Nat) (v : Value) (GL : List (List Tm)) (W w : World), PMs W d m → OkM d m → Ext W w → W.heap.size ≤ base → base ≤ w.heap.size → PRow base w v GL → GL.length + (polM W d m).length ≤ 100000 →
  Calls Tryz.prog 57 #[v, .agg (MT.me d m).A] w (RetAP base GL (polM W d m) w) := by
 obtain ⟨j0, ji, jz0, jz1, jz2⟩ := info_parts Tryz.info29
 intro d
 induction d with
 | zero => intro m base v GL W w _ h; exact absurd h (by unfold OkM; exact fun h => h)
 | succ d ih =>
  intro m base v GL W w hP hok hE0 hWb hbw hR hlen
  obtain ⟨y, k⟩ := m
  obtain ⟨hr0, hn8, hkok⟩ := hok
  change 0 ≤ roomB 4 6 y.s 40 at hr0
  change y.n ≤ 80 at hn8
  change ∀ i, i < y.n → OkM d (k i) at hkok
  obtain ⟨_, _, hps, hk1, hk2, hkid⟩ := hP
  simp only at hps hk1 hk2 hkid
  have hPM := polM_s W d (y, k)
  change polM W (d + 1) (y, k) = if y.kd = 2 then [tmS W y.s] else if y.kd = 3 ∨ y.kd = 4 then (List.range y.n).flatMap fun i => polM W d (k i) else [] at hPM
  have hpi : PI M0 W y.x (tmS W y.s) := tmS_pi hps hr0
  have hE := (Ext.refl w).alloc (.cells y.A 32)
  have hB := new_m7 w y
  show Calls _ _ #[_, .agg (mcA y.kd y.rl y.x y.a y.n y.p)] _ _
  have CK := Lib.hid (pr_kind y (w.alloc (.cells y.A 32)))
  have HB := Lib.hid (new_m7 w y)
  have hsz : w.heap.size < (w.alloc (.cells y.A 32)).heap.size := by simp
  have hR1 := hR.ext hE
  have hE1 := hE0.trans hE
  have HU : Hid (∀ U : World, U.heap.size ≤ base → Ext U w → Ext U (w.alloc (.cells y.A 32))) := fun U _ h => h.trans hE
  obtain ⟨x0, x1, x2, x3, x4, x5, x6⟩ := hB
  generalize hW : w.alloc (.cells y.A 32) = W1 at *
  have HW := Lib.hid hW
  have HE0 := Lib.hid hE0
  have HE1 := Lib.hid hE1
  have HR1 := Lib.hid hR1
  have HKD := Lib.hid hkid
  have HOK := Lib.hid hkok
  have HPI := Lib.hid hpi
  have HPM := Lib.hid hPM
  have HLEN := Lib.hid hlen
  clear hW hE hE0 hE1 hR hR1 hkid hkok hpi hps hPM hlen hr0
  unfold maxLen at hk2
  obtain ⟨va, vp, rfl⟩ := HR1.out.form
  go_enter Tryz.func57, Tryz.ntmps57
  go_upto_region 1 with (fail)
  rw [HW.out]
  go_wp2_with (fail)
  refine CK.out.mono ?_
  rintro e w2 ⟨rfl, he2⟩
  have hbx : w.heap.size < W1.heap.size := hsz
  obtain ⟨z0, z1, z2, z3, z4, z5, z6⟩ := HB.out.ext hbx he2
  have HE2 := Lib.hid (HE1.out.trans he2)
  have HR2 := Lib.hid (HR1.out.ext he2)
  have HU2 : Hid (∀ U : World, U.heap.size ≤ base → Ext U w → Ext U w2) := fun U h1 h2 => (HU.out U h1 h2).trans he2
  have hb2 : base ≤ w2.heap.size := Nat.le_trans hbw (by have := he2.size; omega)
  have HB2 := Lib.hid (HB.out.ext hbx he2)
  have hww : w.heap.size ≤ w2.heap.size := by have := he2.size; omega
  clear he2 CK HE1 HR1 HU x0 x1 x2 x3 x4 x5 x6 HW
  by_cases h2 : y.kd = 2
  ·rw [kdOf_at h2 (by omega) (by omega)]
   have HPQ : Hid (polM W (d + 1) (y, k) = [tmS W y.s]) := HPM.out.trans (if_pos h2)
   have CN := Lib.hid (rp_Normal (MR M0 (.slice va GL.length vp)) y.x (tmS W y.s) w2 HR2.out.mb ((HPI.out.more (M' := MR M0 (.slice va GL.length vp)) (fun g hg => hg.elim (fun h => h.elim) fun h' => .inr (Nat.le_trans hWb (HR2.out.lt g h').1))).ext HE2.out))
   clear HPM HPI HKD HOK HB HB2
   go_wp2_with (fail)
   refine CN.out.mono ?_
   rintro e w3 ⟨u, rfl, hu, he3⟩
   obtain ⟨xx, hO, hX⟩ := HR2.out
   have hE5 : Ext w2 (w3.alloc (.cells (peA u) 29)) := he3.alloc _
   have hO5 := hO.ext hE5
   have hu5 := hu.ext ((Ext.refl w3).alloc (.cells (peA u) 29))
   have hX5 : Hid (∀ j, j < GL.length → CRx (MR M0 (.slice va GL.length vp)) (w3.alloc (.cells (peA u) 29)) 4 (xx j) (GL.getD j [])) := fun j hj => (hX j hj).ext hE5
   have hB5 := Blk.of_arr w3 (peA u) 29 4 rfl
   have hsz5 : base ≤ (w3.alloc (.cells (peA u) 29)).heap.size := Nat.le_trans hb2 hE5.size
   have HU5 := Lib.hid hu5
   have HE5 := Lib.hid hE5
   have HLT := Lib.hid hO5.lt
   have hl1 := HLEN.out
   rw [HPQ.out] at hl1
   simp only [List.length_cons, List.length_nil] at hl1
   clear hO hX hu hu5 he3 CN hE5 z0 z1 z2 z3 z4 z5 z6
   go_wp2_with (at_builtin; refine wpList_append_fn _ rfl (.tmp 11) (.tmp 15) _ rfl base 29 j0 _ 4 64 Tryz.underlying27 ji jz0 jz1 jz2 rfl (by omega) (.slice va GL.length vp) GL.length (px xx) rfl hO5 w3.heap.size 29 1 (arr (peA u)) rfl hB5 (pe_one u) ?s1 ?s2 ?s3 ?_)
   case s1 => unfold maxLen; omega
   case s2 => omega
   case s3 => exact hsz5
   intro gg cap2 w6 hO6 hg6 hat hlt6
   replace hat : (Value.slice va GL.length vp).ownBlock = some gg ∨ (w3.alloc (.cells (peA u) 29)).heap.size ≤ gg := by rw [World.size_alloc]; exact hat
   have HF : Hid (RetAP base GL (polM W (d + 1) (y, k)) w (.returned (.slice (some ⟨gg, 0, none⟩) (GL.length + 1) cap2)) w6) := ⟨_, rfl, by rw [HPQ.out]; exact PRow.push hX5.out HU5.out hO6 hg6 hat, by have hA := hg6.size; have hB := HE5.out.size; exact Nat.le_trans hww (Nat.le_trans hB hA), fun U h1 h2 => ((HU2.out U h1 h2).trans HE5.out).grown hg6 (fun q hq => Nat.le_trans h1 (HLT.out q hq).1)⟩
   clear hO6 hg6 hat hO5 hB5 hX5 HU5 HE5 HLT HU2 HR2 HE2
   go_wp2
   exact bodyPost_ret (v := .slice (some ⟨gg, 0, none⟩) (GL.length + 1) cap2) (by simp [results, Tryz.results57, go_sem]) rfl HF.out
  by_cases h34 : y.kd = 3 ∨ y.kd = 4
  ·have HPQ : Hid (polM W (d + 1) (y, k) = (List.range y.n).flatMap fun i => polM W d (k i)) := HPM.out.trans ((if_neg h2).trans (if_pos h34))
   obtain ⟨f, hf⟩ : ∃ f : Nat → List (List Tm), f = fun i => polM W d (k i) := ⟨_, rfl⟩
   rw [← hf] at HPQ
   have IH : Hid (∀ j, j < y.n → ∀ v' GL' w', PMs W d (k j) → Ext W w' → base ≤ w'.heap.size → PRow base w' v' GL' → GL'.length + (f j).length ≤ 100000 → Calls Tryz.prog 57 #[v', .agg (MT.me d (k j)).A] w' (RetAP base GL' (f j) w')) := fun j hj v' GL' w' hp he hb hr hl => by
    rw [hf] at hl ⊢
    exact ih (k j) base v' GL' W w' hp (HOK.out j hj) he hWb hb hr hl
   have HL2 := HLEN
   rw [HPQ.out] at HL2
   clear HPM HPI HOK HLEN hf ih HB HB2 hbx h2
   generalize y.a = oa at *
   have hkk : kdOf y.kd = 3 ∨ kdOf y.kd = 4 := h34.imp (fun h => kdOf_at h (by omega) (by omega)) fun h => kdOf_at h (by omega) (by omega)
   clear h34
   rcases hkk with hk | hk
   all_goals
    rw [hk]
    go_wp2
    clear z0 z1 z2 z3 z4 z5 z6
    go_loopw [23, 0] (fun iv v wr => ∃ (j : Nat), j ≤ y.n ∧ iv = .int .i64 (j : Int) ∧ PRow base wr v (GL ++ (List.range j).flatMap f) ∧ Hid (w.heap.size ≤ wr.heap.size) ∧ Hid (∀ U : World, U.heap.size ≤ base → Ext U w → Ext U wr)) (fun iv _ _ => y.n - (intOf iv).toNat)
    case atStart => exact ⟨0, Nat.zero_le _, rfl, by simpa using HR2.out, hww, HU2.out⟩
    case round =>
     obtain ⟨j, hj, rfl, hPR, HSZ, HUU⟩ := hrel
     obtain ⟨vb, vn, vq, rfl⟩ := hPR.form2
     have HPR := Lib.hid hPR
     clear hPR
     by_cases hlt : j < y.n
     ·obtain ⟨b, off, rfl, hb, hkc, hp⟩ := HKD.out j hlt
      have hEX : Ext W wr := HUU.out W hWb (HE0.out)
      obtain ⟨e0, e1, e2, e3, e4, e5, e6⟩ := hkc.ext hb hEX
      have hbw : b < wr.heap.size := Nat.lt_of_lt_of_le hb hEX.size
      have hltI : (j : Int) < (y.n : Int) := by omega
      have HLT := Lib.hid hlt
      have hEk := (Ext.refl wr).alloc (.cells (MT.me d (k j)).A 32)
      have CT := Lib.hid (IH.out j hlt _ _ (wr.alloc (.cells (MT.me d (k j)).A 32)) hp (hEX.trans hEk) (by have := HSZ.out; have := hEk.size; omega) (HPR.out.ext hEk) (by
       have h1 := HL2.out
       have h2 := fm_mono f (show j + 1 ≤ y.n by omega)
       rw [fm_succ, List.length_append] at h2
       rw [List.length_append]
       omega))
      have HEK := Lib.hid hEk
      obtain ⟨x0, x1, x2, x3, x4, x5, x6⟩ := new_m7 wr (MT.me d (k j))
      generalize MT.me d (k j) = z at *
      generalize hWk : wr.alloc (.cells z.A 32) = wk at *
      have HWk := Lib.hid hWk
      clear hkc hp hEX hEk hlt hWk
      go_upto_region 9 with (fail)
      rw [HWk.out]
      go_wp2_with (fail)
      refine CT.out.mono ?_
      rintro e w3 ⟨v3, rfl, hR3, hs3, hU3⟩
      have HR3 := Lib.hid hR3
      have HS3 : Hid (w.heap.size ≤ w3.heap.size) := by have := HSZ.out; have := HEK.out.size; show _ ≤ _; omega
      have HU3 : Hid (∀ U : World, U.heap.size ≤ base → Ext U w → Ext U w3) := fun U h1 h2 => hU3 U h1 ((HUU.out U h1 h2).trans HEK.out)
      clear CT hR3 hs3 hU3 HEK HPR HSZ HUU e0 e1 e2 e3 e4 e5 e6 x0 x1 x2 x3 x4 x5 x6
      go_wp2
      go_roundw
      case rel => exact ⟨j + 1, HLT.out, by go_num, by rw [fm_succ, ← List.append_assoc]; exact HR3.out, HS3, HU3⟩
      case measure => have := HLT.out; simp [intOf]; omega
     ·obtain rfl : j = y.n := by omega
      have hge : ¬ (y.n : Int) < (y.n : Int) := by omega
      have HF : Hid (RetAP base GL (polM W (d + 1) (y, k)) w (.returned (.slice vb vn vq)) wr) := ⟨_, rfl, by rw [HPQ.out]; exact HPR.out, HSZ.out, HUU.out⟩
      clear HPR HSZ HUU
      go_wp2
      exact bodyPost_ret (v := .slice vb vn vq) (by simp [results, Tryz.results57, go_sem]) rfl HF.out
  ·have HPQ : Hid (polM W (d + 1) (y, k) = []) := HPM.out.trans ((if_neg h2).trans (if_neg h34))
   obtain ⟨g2, g3, g4⟩ := kdOf_ne h2 (fun h => h34 (.inl h)) (fun h => h34 (.inr h))
   have HF : Hid (RetAP base GL (polM W (d + 1) (y, k)) w (.returned (.slice va GL.length vp)) w2) := ⟨_, rfl, by rw [HPQ.out, List.append_nil]; exact HR2.out, hww, HU2.out⟩
   generalize kdOf y.kd = z at *
   have b2 : (z == 2) = false := beq_eq_false_iff_ne.2 g2
   have b3 : (z == 3) = false := beq_eq_false_iff_ne.2 g3
   have b4 : (z == 4) = false := beq_eq_false_iff_ne.2 g4
   clear HPM HPI HOK HB HB2 HKD HPQ HU2 HR2
   go_wp2
   exact bodyPost_ret (v := .slice va GL.length vp) (by simp [results, Tryz.results57, go_sem]) rfl HF.out
end Go.Proofs.YtodiphjjdheoaaaGreat

namespace Go.Proofs.YtodiphjjdheoaaaGreat
open Go.RowKit

def RetPs (L : List (List Tm)) (w : World) (e : Ending) (w' : World) : Prop := ∃ a n p, e = .returned (.slice a n p) ∧ n = L.length ∧ KRow M0 w' 4 (.slice a n p) n (fun j => L.getD j []) ∧ Ext w w'
set_option maxRecDepth 100000 in
set_option maxHeartbeats 4000000 in
theorem pr_Polys (d : Nat) (m : MT d) (W w : World) (hP : PMs W d m) (hok : OkM d m) (hE0 : Ext W w) (hl : (polM W d m).length ≤ 100000) : Calls Tryz.prog 18 #[.agg (MT.me d m).A] w (RetPs (polM W d m) w) := by
 have hE := (Ext.refl w).alloc (.cells (MT.me d m).A 32)
 have CT := Lib.hid (pr_append d m w.heap.size (.slice none 0 0) [] W (w.alloc (.cells (MT.me d m).A 32)) hP hok (hE0.trans hE) hE0.size hE.size (PRow.nil _ _) (by simpa using hl))
 have HE := Lib.hid hE
 generalize polM W d m = L at *
 obtain ⟨x0, x1, x2, x3, x4, x5, x6⟩ := new_m7 w (MT.me d m)
 generalize MT.me d m = y at *
 generalize hW1 : w.alloc (.cells y.A 32) = W1 at *
 have HW1 := Lib.hid hW1
 clear hW1 hE hP hok hE0
 go_enter Tryz.func18, Tryz.ntmps18
 go_upto_region 1 with (fail)
 rw [HW1.out]
 go_wp2_with (fail)
 refine CT.out.mono ?_
 rintro e w2 ⟨v, rfl, hR, _, hU⟩
 rw [List.nil_append] at hR
 have hK := hR.krow (by omega)
 obtain ⟨a, n, p, rfl, hn⟩ := hR.form3
 rw [← hn] at hK
 have HF : Hid (RetPs L w (.returned (.slice a n p)) w2) := ⟨a, n, p, rfl, hn, hK, hU w (Nat.le_refl _) HE.out⟩
 clear hR hU CT HE hK hn hl
 go_wp2
 exact bodyPost_ret (v := .slice a n p) (by simp [results, Tryz.results18, go_sem]) rfl HF.out
end Go.Proofs.YtodiphjjdheoaaaGreat
