/- sparse: a gather as an account of a list of terms; Add. sparse: Scale, Neg, Sub. Regions that draw their order: the last operation may wait for the others through others. sparse: Mul. recpoly: Sub, Neg. -/
import Derived.Test.YthhffpimcgmciaaMh
set_option linter.unusedVariables false
set_option linter.unusedSimpArgs false

namespace Go.Proofs.Ythhffpimcgmciaa
open Go.RowKit

/-- the gather at g holds the sum of the terms L -/
def GAcc (M : Nat → Prop) (base : Nat) (w : World) (g : Nat) (L : List Tm) : Prop :=
  ∃ (n : Nat) (z : Nat → Int) (m : Nat → Mo), GSt M base w g n z m ∧ GOk n m ∧ n ≤ L.length ∧ nrm (tls n z m) ≤ nrm L ∧ ∀ q, coefAt (tls n z m) q = ncoef L q
theorem GAcc.ext {M : Nat → Prop} {base : Nat} {w w' : World} {g : Nat} {L : List Tm} (h : GAcc M base w g L) (he : Ext w w') : GAcc M base w' g L := by
  obtain ⟨n, z, m, h1, h2⟩ := h
  exact ⟨n, z, m, h1.ext he, h2⟩
theorem GAcc.lt {M : Nat → Prop} {base : Nat} {w : World} {g : Nat} {L : List Tm} (h : GAcc M base w g L) : base ≤ g ∧ g < w.heap.size := by
  obtain ⟨n, z, m, h1, h2⟩ := h
  exact h1.lt
theorem GAcc.gblk {M : Nat → Prop} {base : Nat} {w : World} {g : Nat} {L : List Tm} (h : GAcc M base w g L) {b : Nat} (hb : GBlk w g b) : base ≤ b ∧ b < w.heap.size := by
  obtain ⟨n, z, m, h1, h2⟩ := h
  exact h1.gblk hb
theorem ncoef_snoc (L : List Tm) (c : Int) (k q : Mo) : ncoef (L ++ [(c, k)]) q = ncoef L q + (if k.nn = true then (if k = q then c else 0) else 0) := by
  unfold ncoef
  rw [coefAt_append]
  by_cases hq : q.nn = true
  · rw [if_pos hq, if_pos hq]
    simp only [coefAt]
    by_cases hmq : k = q
    · rw [if_pos hmq, if_pos (by rw [hmq]; exact hq)]; omega
    · rw [if_neg hmq]; split <;> simp
  · rw [if_neg hq, if_neg hq]
    by_cases hmk : k.nn = true
    · rw [if_pos hmk, if_neg (fun (e : k = q) => hq (e ▸ hmk))]; omega
    · rw [if_neg hmk]; omega
theorem gacc_mk (M : Nat → Prop) (w : World) :
    Calls Try.prog 69 #[] w fun e w' => e = .returned (.pointer (some ⟨w.heap.size + 1, 0, none⟩)) ∧ GAcc M w.heap.size w' (w.heap.size + 1) [] ∧ Ext w w' := by
  refine (gather_mk M w).mono ?_
  rintro e w' ⟨he, hG, hE⟩
  exact ⟨he, ⟨0, _, _, hG, ⟨fun i j _ h => by omega, fun i h => by omega⟩, Nat.le_refl _, Nat.le_refl _, fun q => by simp [tls, coefAt, ncoef]⟩, hE⟩
theorem gacc_add (M : Nat → Prop) (base g : Nat) (L : List Tm) (k : Mo) (d0 d1 : Value) (c : Int) (w : World) (hM : Mb M w) (hG : GAcc M base w g L) (hIg : IntV (fun b => M b ∨ GBlk w g b) w d0 d1 c)
    (hn : L.length + 1 ≤ 1099511627776) (hL : dlen (nrm L + c.natAbs) ≤ 1099511627776) :
    Calls Try.prog 70 #[.pointer (some ⟨g, 0, none⟩), moV k, .agg #[d0, d1]] w fun e w' => e = .returned (.tuple #[]) ∧ GAcc M base w' g (L ++ [(c, k)]) ∧ Below base w w' ∧ Fr g w w' := by
  obtain ⟨n, z, m, hS, hok, hlen, hnrm, hq⟩ := hG
  refine (gather_add M base g n z m k d0 d1 c w hM hS hok hIg (by omega) (Nat.le_trans (dlen_mono (by omega)) hL)).mono ?_
  rintro e w' ⟨he, n', z', m', hS', hok', hn', hnrm', hq', hb, hfr⟩
  refine ⟨he, ⟨n', z', m', hS', hok', by simp; omega, ?_, fun q => ?_⟩, hb, hfr⟩
  · rw [nrm_append]; simp [nrm]; omega
  · rw [hq', hq, ncoef_snoc]
theorem gacc_poly (M : Nat → Prop) (base g : Nat) (L : List Tm) (w : World) (hM : Mb M w) (hG : GAcc M base w g L) :
    Calls Try.prog 71 #[.pointer (some ⟨g, 0, none⟩)] w fun e w' => ∃ v, e = .returned v ∧ PolyO M w.heap.size w' v (norm L) ∧ Ext w w' := by
  obtain ⟨n, z, m, hS, hok, hlen, hnrm, hq⟩ := hG
  have hnorm : norm (tls n z m) = norm L := by
    refine norm_eq (norm_canon _) (fun q => ?_)
    rw [norm_coef]
    unfold ncoef
    by_cases hqq : q.nn = true
    · rw [if_pos hqq, hq q]; unfold ncoef; rw [if_pos hqq]
    · rw [if_neg hqq, if_neg hqq]
  rw [← hnorm]
  exact gather_poly M base g n z m w hM hS hok
theorem PolyV.form {M : Nat → Prop} {w : World} {v : Value} {l : List Tm} (h : PolyV M w v l) : ∃ a cap, v = .slice a l.length cap := by
  obtain ⟨n, z, m, c0, c1, ⟨hnL, hrow⟩, rfl, hI⟩ := h
  rw [show (tls n z m).length = n by simp [tls]]
  rcases hrow with ⟨rfl, rfl⟩ | ⟨b, off, cap, rfl, _⟩
  · exact ⟨_, _, rfl⟩
  · exact ⟨_, _, rfl⟩
theorem PolyV.len {M : Nat → Prop} {w : World} {v : Value} {l : List Tm} (h : PolyV M w v l) : l.length ≤ 1099511627776 := by
  obtain ⟨n, z, m, c0, c1, ⟨hnL, hrow⟩, rfl, hI⟩ := h
  simpa [tls] using hnL
/-- the term number k of a polynomial in memory -/
theorem PolyV.at {M : Nat → Prop} {w : World} {a : Option Addr} {n cap : Nat} {l : List Tm} (h : PolyV M w (.slice a n cap) l) {k : Nat} (hk : k < l.length) : ∃ (b off : Nat) (c : Int) (m : Mo) (b1 : Bool) (a1 : Option Addr) (n1 p1 : Nat),
    a = some ⟨b, off, none⟩ ∧ l.length ≤ cap ∧ cap ≤ maxLen ∧ b < w.heap.size ∧ w.cell? ⟨b, off + k * 6, none⟩ = some (.bool b1) ∧ w.cell? ⟨b, off + k * 6 + 1, none⟩ = some (.slice a1 n1 p1) ∧
    w.cell? ⟨b, off + k * 6 + 2, none⟩ = some (.int .i64 m.a) ∧ w.cell? ⟨b, off + k * 6 + 3, none⟩ = some (.int .i64 m.b) ∧ w.cell? ⟨b, off + k * 6 + 4, none⟩ = some (.int .i64 m.c) ∧ w.cell? ⟨b, off + k * 6 + 5, none⟩ = some (.int .i64 m.d) ∧
    IntV M w (.bool b1) (.slice a1 n1 p1) c ∧ l.take (k + 1) = l.take k ++ [(c, m)] ∧ (c, m) ∈ l := by
  obtain ⟨n', z, m, c0, c1, ⟨hnL, hrow⟩, rfl, hI⟩ := h
  have hlen : (tls n' z m).length = n' := by simp [tls]
  rw [hlen] at hk ⊢
  rcases hrow with ⟨_, h0⟩ | ⟨b, off, cap', hv, hcap, hm, hb, hcells⟩
  · omega
  simp only [Value.slice.injEq] at hv
  obtain ⟨rfl, rfl, rfl⟩ := hv
  obtain ⟨x0, x1, x2, x3, x4, x5⟩ := hcells k hk
  have hIk := hI k hk
  obtain ⟨b1, a1, n1, p1, e0, e1⟩ := hIk.form
  rw [e0, e1] at hIk
  rw [e0] at x0
  rw [e1] at x1
  have hmem : (z k, m k) ∈ tls n z m := List.mem_map.2 ⟨k, List.mem_range.2 hk, rfl⟩
  refine ⟨b, off, z k, m k, b1, a1, n1, p1, rfl, hcap, hm, hb.1, x0, x1, x2, x3, x4, x5, hIk, ?_, hmem⟩
  rw [List.take_succ_eq_append_getElem (by rw [hlen]; exact hk)]
  simp [tls]
set_option maxRecDepth 100000 in
set_option maxHeartbeats 4000000 in
theorem sp_add (M : Nat → Prop) (v u : Value) (l r : List Tm) (w : World) (hM : Mb M w) (hP : PolyV M w v l) (hQ : PolyV M w u r) (hl : (l ++ r).length ≤ 1099511627776) (hL : dlen (nrm (l ++ r)) ≤ 1099511627776) :
    Calls Try.prog 30 #[v, u] w fun e w' => ∃ x, e = .returned x ∧ PolyO M w.heap.size w' x (norm (l ++ r)) ∧ Ext w w' := by
  obtain ⟨va, vc, rfl⟩ := hP.form
  obtain ⟨ua, uc, rfl⟩ := hQ.form
  have HP := Lib.hid hP
  have HQ := Lib.hid hQ
  have HL := Lib.hid hL
  have HLL := Lib.hid hl
  have i0 : ∀ w, (Instr.index 98 (.agg #[.slice va l.length vc, .slice ua r.length uc]) (.int .i64 0)).run Try.prog w = .ok (.slice va l.length vc) w := fun _ => by kernel_rfl
  have i1 : ∀ w, (Instr.index 98 (.agg #[.slice va l.length vc, .slice ua r.length uc]) (.int .i64 1)).run Try.prog w = .ok (.slice ua r.length uc) w := fun _ => by kernel_rfl
  clear hP hQ hL hl
  go_enter Try.func30, Try.ntmps30
  go_wp2_with (fail)
  refine (gacc_mk M w).mono ?_
  rintro e w1 ⟨rfl, hG, he1⟩
  go_wp2
  go_loopw [14] (fun i wr => ∃ j : Nat, j ≤ 2 ∧ i = .int .i64 j ∧ GAcc M w.heap.size wr (w.heap.size + 1) (if j = 0 then [] else if j = 1 then l else l ++ r) ∧ Ext w wr) (fun i _ => 2 - (intOf i).toNat)
  case atStart => exact ⟨0, Nat.zero_le _, rfl, hG, he1⟩
  case round =>
    clear hG he1
    obtain ⟨j, hj, rfl, hG, her⟩ := hrel
    by_cases hlt : j < 2
    · have hX : ∃ (xa : Option Addr) (xn xc : Nat) (lx pre : List Tm), (∀ w, (Instr.index 98 (.agg #[.slice va l.length vc, .slice ua r.length uc]) (.int .i64 (j : Int))).run Try.prog w = .ok (.slice xa xn xc) w) ∧ Hid (xn = lx.length) ∧ Hid (PolyV M w (.slice xa xn xc) lx) ∧ GAcc M w.heap.size wr (w.heap.size + 1) pre ∧ Hid (pre ++ lx = (if j + 1 = 0 then [] else if j + 1 = 1 then l else l ++ r)) ∧ Hid ((pre ++ lx).length ≤ 1099511627776) ∧ Hid (dlen (nrm (pre ++ lx)) ≤ 1099511627776) := by
        have hj2 : j = 0 ∨ j = 1 := by omega
        rcases hj2 with rfl | rfl
        · refine ⟨va, l.length, vc, l, [], i0, (rfl : l.length = l.length), HP, hG, ?_, ?_, ?_⟩
          · show _ = _; simp
          · have := HLL.out; simp at this; show _ ≤ _; simp; omega
          · show _ ≤ _; exact Nat.le_trans (dlen_mono (by rw [nrm_append, nrm_append]; simp [nrm])) HL.out
        · refine ⟨ua, r.length, uc, r, l, i1, (rfl : r.length = r.length), HQ, hG, ?_, HLL, HL⟩
          show _ = _; simp
      obtain ⟨xa, xn, xc, lx, pre, ix, HXN, HX, hG1, HPRE, HLEN, HNRM⟩ := hX
      clear hG i0 i1 HP HQ HL HLL
      have hxl : xn ≤ 1099511627776 := by rw [HXN.out]; exact HX.out.len
      have hjd : decide ((j : Int) < 2) = true := by simp; omega
      go_wp2
      go_loopw [19] (fun i wr => ∃ k : Nat, k ≤ xn ∧ i = .int .i64 k ∧ GAcc M w.heap.size wr (w.heap.size + 1) (pre ++ lx.take k) ∧ Ext w wr) (fun i _ => xn - (intOf i).toNat)
      case atStart => exact ⟨0, Nat.zero_le _, rfl, by simpa using hG1, her⟩
      case round =>
        clear hG1 her
        obtain ⟨k, hk, rfl, hG2, hez⟩ := hrel
        have hsz := hez.size
        by_cases hlk : k < xn
        · obtain ⟨b, off, c, m, b1, a1, n1, p1, rfl, hcap, hmx, hb, x0, x1, x2, x3, x4, x5, hI, hT, hmem⟩ := HX.out.at (k := k) (by rw [← HXN.out]; exact hlk)
          rw [← HXN.out] at hcap
          rw [← hez.cell hb] at x0 x1 x2 x3 x4 x5
          have hbw : b < wr.heap.size := by omega
          have HI : Hid (IntV (fun b => M b ∨ w.heap.size ≤ b) wr (.bool b1) (.slice a1 n1 p1) c) := (hI.more (fun b hb => hb)).ext hez
          have HT := Lib.hid hT
          have HL1 : Hid ((pre ++ lx.take k).length + 1 ≤ 1099511627776) := by
            have h1 := HLEN.out
            have h2 := HXN.out
            show _ ≤ _
            simp only [List.length_append, List.length_take] at h1 ⊢; omega
          have HN1 : Hid (dlen (nrm (pre ++ lx.take k) + c.natAbs) ≤ 1099511627776) := by
            refine Nat.le_trans (dlen_mono ?_) HNRM.out
            have h3 : nrm (lx.take (k + 1)) ≤ nrm lx := by
              conv => rhs; rw [← List.take_append_drop (k + 1) lx]
              rw [nrm_append]; omega
            rw [hT, nrm_append] at h3
            rw [nrm_append, nrm_append]
            simp [nrm] at h3; omega
          clear hI hT hmem
          go_wp2_with (fail)
          refine (gacc_add M w.heap.size (w.heap.size + 1) (pre ++ lx.take k) m _ _ c _ (hM.size (by simp; omega)) (hG2.ext ((Ext.refl wr).alloc _)) ((HI.out.ext ((Ext.refl wr).alloc _)).more (fun b hb => .inl (hb.imp id (fun h => (hG2.gblk (h.ext ((Ext.refl wr).alloc _) hG2.lt.2)).1)))) HL1.out HN1.out).mono ?_
          rintro e w2 ⟨rfl, hG3, hb2, _⟩
          have hE2 : Ext w w2 := Below.trans (Ext.below (hez.alloc _)) hb2
          rw [List.append_assoc, ← HT.out] at hG3
          clear hb2 x0 x1 x2 x3 x4 x5
          go_wp2
          go_roundw
          case rel => exact ⟨k + 1, by omega, by go_num, hG3, hE2⟩
          case measure => simp [intOf]; omega
        · have HK : Hid (k = lx.length) := by have := HXN.out; show _ = _; omega
          rw [HK.out, List.take_length, HPRE.out] at hG2
          go_wp2
          go_roundw
          case rel => exact ⟨j + 1, by omega, by go_num, hG2, hez⟩
          case measure => simp [intOf]; omega
    · have : j = 2 := by omega
      subst this
      clear i0 i1
      have hG2 : GAcc M w.heap.size wr (w.heap.size + 1) (l ++ r) := by simpa using hG
      clear hG
      go_wp2_with (fail)
      refine (gacc_poly M w.heap.size (w.heap.size + 1) (l ++ r) _ (hM.ext her) hG2).mono ?_
      rintro e w2 ⟨x, rfl, hx, he2⟩
      have HX : Hid (PolyO M w.heap.size w2 x (norm (l ++ r))) := hx.base her.size
      have HE := Lib.hid (her.trans he2)
      clear hx hG2 he2 her
      go_wp2
      go_ret
      exact ⟨x, rfl, HX.out, HE.out⟩
end Go.Proofs.Ythhffpimcgmciaa

namespace Go.Proofs.Ythhffpimcgmciaa
open Go.RowKit

theorem smul_canon {c : Int} (hc : c ≠ 0) {l : List Tm} (h : Canon l) : Canon (smul c l) := by
  refine ⟨?_, fun t ht => ?_⟩
  · unfold smul
    rw [List.pairwise_map]
    exact h.1
  · unfold smul at ht
    obtain ⟨s, hs, rfl⟩ := List.mem_map.1 ht
    have := h.2 s hs
    exact ⟨by simpa using ⟨hc, this.1⟩, this.2⟩
theorem norm_smul {c : Int} (hc : c ≠ 0) (l : List Tm) : smul c (norm l) = norm (smul c l) := by
  refine norm_eq (smul_canon hc (norm_canon l)) fun m => ?_
  rw [coefAt_smul, norm_coef]
  unfold ncoef
  rw [coefAt_smul]
  split
  · rfl
  · simp
theorem norm_smul0 (l : List Tm) : norm (smul 0 l) = [] := by
  refine (norm_eq Canon.nil fun m => ?_).symm
  unfold ncoef
  rw [coefAt_smul]
  simp [coefAt]
/-- the state of Scale after k terms -/
def ScSt (M : Nat → Prop) (base : Nat) (w : World) (v : Value) (n : Nat) (z : Nat → Int) (m : Nat → Mo) (k : Nat) (c : Int) : Prop :=
  ∃ X : Nat → TE, Own w base 83 6 v n (tx X) ∧ (∀ i, i < n → IntC (MR M v) w (.bool (X i).b) (.slice (X i).a (X i).n (X i).p) (if i < k then z i * c else z i) ∧ (X i).m = m i)
/-- what the loads of Scale's region read -/
def SSc (b t k : Nat) (c0 c1 d0 d1 : Value) (w : World) : Prop := w.cell? ⟨b, 0, none⟩ = some c0 ∧ w.cell? ⟨b, 1, none⟩ = some c1 ∧ w.cell? ⟨t, k * 6, none⟩ = some d0 ∧ w.cell? ⟨t, k * 6 + 1, none⟩ = some d1
theorem SSc.ext {b t k : Nat} {c0 c1 d0 d1 : Value} {w w' : World} (h : SSc b t k c0 c1 d0 d1 w) (he : Ext w w') : SSc b t k c0 c1 d0 d1 w' := by
  have h1 := World.block_lt_of_cell? _ _ h.1
  have h2 := World.block_lt_of_cell? _ _ h.2.2.1
  unfold SSc; rw [he.cell h1, he.cell h1, he.cell h2, he.cell h2]; exact h
theorem ScSt.step {M : Nat → Prop} {base : Nat} {w : World} {g cap : Nat} {n : Nat} {z : Nat → Int} {m : Nat → Mo} {k : Nat} {c : Int} {b2 : Bool} {a2 : Option Addr} {n2 p2 : Nat} (h : ScSt M base w (.slice (some ⟨g, 0, none⟩) n cap) n z m k c) (hk : k < n) (hI : IntC (MR M (.slice (some ⟨g, 0, none⟩) n cap)) w (.bool b2) (.slice a2 n2 p2) (z k * c)) :
    ScSt M base ((w.setCell ⟨g, k * 6, none⟩ (.bool b2)).setCell ⟨g, k * 6 + 1, none⟩ (.slice a2 n2 p2)) (.slice (some ⟨g, 0, none⟩) n cap) n z m (k + 1) c ∧ base ≤ g := by
  obtain ⟨X, hO, hX⟩ := h
  obtain ⟨g', cap', F, hv, hbg, hB, hnc, hcm, hF⟩ := hO.some (by omega)
  simp only [Value.slice.injEq, Option.some.injEq, Addr.mk.injEq, and_true, true_and] at hv
  obtain ⟨rfl, rfl⟩ := hv
  have hkp : Kp (MR M (.slice (some ⟨g, 0, none⟩) n cap)) w ((w.setCell ⟨g, k * 6, none⟩ (.bool b2)).setCell ⟨g, k * 6 + 1, none⟩ (.slice a2 n2 p2)) :=
    (Kp.set _ w (p := ⟨g, k * 6, none⟩) (.inr rfl) _).trans (Kp.set _ _ (p := ⟨g, k * 6 + 1, none⟩) (.inr rfl) _)
  refine ⟨⟨fun i => if i = k then ⟨b2, a2, n2, p2, m k⟩ else X i, .inr ⟨g, cap, _, rfl, hbg, (hB.set (k * 6) _).set (k * 6 + 1) _, hnc, hcm, fun j hj => ?_⟩, fun i hi => ?_⟩, hbg⟩
  · have h1 : upd (upd F (k * 6) (.bool b2)) (k * 6 + 1) (.slice a2 n2 p2) j = upd (upd (tx X) (k * 6) (.bool b2)) (k * 6 + 1) (.slice a2 n2 p2) j := by
      unfold upd; rw [hF j hj]
    rw [h1]
    unfold tx
    rw [tcell_upd]
    unfold tcell updV
    by_cases hj6 : j / 6 = k
    · simp [hj6, (hX k hk).2]
    · simp [hj6]
  · by_cases hik : i = k
    · subst hik
      simp only [if_true, Nat.lt_succ_self]
      exact ⟨hI.kp hkp, trivial⟩
    · simp only [if_neg hik]
      obtain ⟨h1, h2⟩ := hX i hi
      refine ⟨?_, h2⟩
      have h3 := h1.kp hkp
      by_cases hlt : i < k
      · rw [if_pos hlt] at h3; rw [if_pos (by omega)]; exact h3
      · rw [if_neg hlt] at h3; rw [if_neg (by omega)]; exact h3
set_option maxRecDepth 100000 in
set_option maxHeartbeats 4000000 in
theorem sp_scale (M : Nat → Prop) (v : Value) (l : List Tm) (b : Bool) (a : Option Addr) (n1 p1 : Nat) (c : Int) (w : World) (hM : Mb M w) (hP : PolyV M w v l) (hc : IntV M w (.bool b) (.slice a n1 p1) c) (hL : dlen (nrm l) + dlen c.natAbs ≤ 95) :
    Calls Try.prog 41 #[v, .agg #[.bool b, .slice a n1 p1]] w fun e w' => ∃ u, e = .returned u ∧ PolyO M w.heap.size w' u (norm (smul c l)) ∧ Ext w w' := by
  have hE0 : Ext w (w.alloc (.cells #[.bool b, .slice a n1 p1] 28)) := (Ext.refl w).alloc _
  have hB0 := Blk.of_arr w #[.bool b, .slice a n1 p1] 28 2 rfl
  obtain ⟨va, vc, rfl⟩ := hP.form
  have HP := Lib.hid hP
  have HC := Lib.hid hc
  have HL := Lib.hid hL
  clear hP hc hL
  by_cases hz : c = 0
  · have t0 : (c.sign == 0) = true := by simp [hz]
    have HR : Hid (norm (smul c l) = []) := by show _ = _; rw [hz]; exact norm_smul0 l
    clear hz
    go_enter Try.func41, Try.ntmps41
    go_wp2_with (fail)
    refine (int_sign _ _ c _ (HC.out.ext hE0)).mono ?_
    rintro e w1 ⟨rfl, he1⟩
    go_wp2
    go_ret
    exact ⟨_, rfl, by rw [HR.out]; exact ⟨0, fun _ => 0, fun _ => default, .inl ⟨rfl, rfl⟩, fun i hi => by omega, rfl, by omega, fun q hq => by simp [Value.ownBlock] at hq⟩, hE0.trans he1⟩
  have t0 : (c.sign == 0) = false := by simp [hz]
  have HZ := Lib.hid hz
  clear hz
  go_enter Try.func41, Try.ntmps41
  go_wp2_with (fail)
  refine (int_sign _ _ c _ (HC.out.ext hE0)).mono ?_
  rintro e w1 ⟨rfl, he1⟩
  have hE1 := hE0.trans he1
  go_wp2_with (fail)
  refine (sp_normal M _ l w1 (hM.ext hE1) (HP.out.ext hE1) (Nat.le_trans (Nat.le_add_right _ _) (Nat.le_trans HL.out (by omega)))).mono ?_
  rintro e w2 ⟨u, rfl, hu, he2⟩
  obtain ⟨n, z, x, hO, hI, hl, hn, hown⟩ := hu.base (B' := w.heap.size + 1) (by have := hE0.size; have := he1.size; simp at *; omega)
  obtain ⟨ua, uc, rfl⟩ := hO.form
  have hE2 := hE1.trans he2
  have hc0 := ((hB0.ext he1).ext he2).cell (i := 0) (by omega)
  have hc1 := ((hB0.ext he1).ext he2).cell (i := 1) (by omega)
  simp only [arr] at hc0 hc1
  have HI := Lib.hid hI
  have HO := Lib.hid hown
  have HLE := Lib.hid hl
  have hst : ScSt M (w.heap.size + 1) w2 (.slice ua n uc) n z (fun i => (x i).m) 0 c := ⟨x, hO, fun i hi => ⟨hI i hi, rfl⟩⟩
  have HC2 := Lib.hid (HC.out.ext hE2)
  clear hI hown hl hu he1 he2 hE1 hE0 hO hB0
  go_wp2
  go_loopw [14] (fun i wr => ∃ k : Nat, k ≤ n ∧ i = .int .i64 k ∧ ScSt M (w.heap.size + 1) wr (.slice ua n uc) n z (fun i => (x i).m) k c ∧ wr.cell? ⟨w.heap.size, 0, none⟩ = some (.bool b) ∧ wr.cell? ⟨w.heap.size, 1, none⟩ = some (.slice a n1 p1) ∧ Ext w wr) (fun i _ => n - (intOf i).toNat)
  case atStart => exact ⟨0, Nat.zero_le _, rfl, hst, by simpa using hc0, by simpa using hc1, hE2⟩
  case round =>
    clear hst hc0 hc1 hE2
    obtain ⟨k, hk, rfl, hst, hc0, hc1, her⟩ := hrel
    by_cases hlt : k < n
    · have hst' := hst
      obtain ⟨X, hO, hX⟩ := hst'
      obtain ⟨g, cap, F, hv, hbg, hB, hnc, hcm, hF⟩ := hO.some (by omega)
      simp only [Value.slice.injEq, true_and] at hv
      obtain ⟨rfl, rfl⟩ := hv
      have hIk := (hX k hlt).1
      rw [if_neg (by omega)] at hIk
      have hx0 := hB.cell (i := k * 6) (by omega)
      have hx1 := hB.cell (i := k * 6 + 1) (by omega)
      rw [hF _ (by omega)] at hx0 hx1
      unfold tx at hx0 hx1
      rw [tcell0] at hx0
      rw [tcell1] at hx1
      have HS : Hid (SSc w.heap.size g k (.bool b) (.slice a n1 p1) (.bool (X k).b) (.slice (X k).a (X k).n (X k).p) wr.drew) := SSc.ext ⟨hc0, hc1, hx0, hx1⟩ (Ext.refl _).drew
      clear hc0 hc1 hx0 hx1
      have hgw := hB.lt
      have hf0 := hB.frozen (k * 6)
      have hf1 := hB.frozen (k * 6 + 1)
      have HIK := Lib.hid (hIk.ext (Ext.refl wr).drew)
      have HST := Lib.hid hst
      have HBd := Lib.hid (hB.ext (Ext.refl wr).drew)
      clear hX hF hO hIk hst
      have HD : Hid (dlen (z k).natAbs + dlen c.natAbs ≤ 95) := by
        refine Nat.le_trans (Nat.add_le_add_right (dlen_mono (y := nrm l) ?_) _) HL.out
        refine Nat.le_trans (nrm_mem (t := (z k, (x k).m)) (l := norm l) ?_) (norm_nrm l)
        rw [HLE.out]; exact List.mem_map.2 ⟨k, List.mem_range.2 hlt, rfl⟩
      have HMd : Hid (Mb (MR M (.slice (some ⟨g, 0, none⟩) n uc)) wr.drew) := fun q hq => by
        rcases hq with hq | hq
        · exact hM.ext (her.trans (Ext.refl wr).drew) q hq
        · simp only [Value.ownBlock, Option.some.injEq] at hq; subst hq; exact hgw
      have HCd : Hid (IntV (MR M (.slice (some ⟨g, 0, none⟩) n uc)) wr.drew (.bool b) (.slice a n1 p1) c) := (HC.out.more (fun q hq => by
        rcases hq with hq | hq
        · exact .inl hq
        · simp only [Value.ownBlock, Option.some.injEq] at hq; subst hq; right; omega)).ext (her.trans (Ext.refl wr).drew)
      have her' := her.trans (Ext.refl wr).drew
      go_upto_region 7 with (fail)
      refine wp_region_u (SSc w.heap.size g k (.bool b) (.slice a n1 p1) (.bool (X k).b) (.slice (X k).a (X k).n (X k).p)) 11 (by kernel_rfl) HS.out (fun hHeld => ?_)
      ((refine wpAnyU_take 0 (oi := ?_) (v := ?_) (by kernel_rfl) (by kernel_rfl) (by kernel_rfl) (by kernel_rfl) (by first | exact hSn | exact hHeld) ?_ ?_ ?_ ?_ ?_; rotate_left 2; (simp only [List.getElem?_toArray, List.getElem?_cons_succ, List.getElem?_cons_zero]; rfl); rfl; (intro wS hSw; obtain ⟨S1, S2, S3, S4⟩ := hSw; go_simp; try with_reducible rfl); (exact fun _ _ _ h => h); (try simp only [Act.put, List.setIfInBounds_toArray, List.set_cons_zero, List.set_cons_succ])); (refine wpAnyU_take 1 (oi := ?_) (v := ?_) (by kernel_rfl) (by kernel_rfl) (by kernel_rfl) (by kernel_rfl) (by first | exact hSn | exact hHeld) ?_ ?_ ?_ ?_ ?_; rotate_left 2; (simp only [List.getElem?_toArray, List.getElem?_cons_succ, List.getElem?_cons_zero]; rfl); rfl; (intro wS hSw; obtain ⟨S1, S2, S3, S4⟩ := hSw; go_simp; try with_reducible rfl); (exact fun _ _ _ h => h); (try simp only [Act.put, List.setIfInBounds_toArray, List.set_cons_zero, List.set_cons_succ])); (refine wpAnyU_take 2 (oi := ?_) (v := ?_) (by kernel_rfl) (by kernel_rfl) (by kernel_rfl) (by kernel_rfl) (by first | exact hSn | exact hHeld) ?_ ?_ ?_ ?_ ?_; rotate_left 2; (simp only [List.getElem?_toArray, List.getElem?_cons_succ, List.getElem?_cons_zero]; rfl); rfl; (intro wS hSw; obtain ⟨S1, S2, S3, S4⟩ := hSw; go_simp; try with_reducible rfl); (exact fun _ _ _ h => h); (try simp only [Act.put, List.setIfInBounds_toArray, List.set_cons_zero, List.set_cons_succ])); (refine wpAnyU_take 3 (oi := ?_) (v := ?_) (by kernel_rfl) (by kernel_rfl) (by kernel_rfl) (by kernel_rfl) (by first | exact hSn | exact hHeld) ?_ ?_ ?_ ?_ ?_; rotate_left 2; (simp only [List.getElem?_toArray, List.getElem?_cons_succ, List.getElem?_cons_zero]; rfl); rfl; (intro wS hSw; obtain ⟨S1, S2, S3, S4⟩ := hSw; go_simp; try with_reducible rfl); (exact fun _ _ _ h => h); (try simp only [Act.put, List.setIfInBounds_toArray, List.set_cons_zero, List.set_cons_succ])); (refine wpAnyU_take 4 (oi := ?_) (v := ?_) (by kernel_rfl) (by kernel_rfl) (by kernel_rfl) (by kernel_rfl) (by first | exact hSn | exact hHeld) ?_ ?_ ?_ ?_ ?_; rotate_left 2; (simp only [List.getElem?_toArray, List.getElem?_cons_succ, List.getElem?_cons_zero]; rfl); rfl; (intro wS hSw; obtain ⟨S1, S2, S3, S4⟩ := hSw; go_simp; try with_reducible rfl); (exact fun _ _ _ h => h); (try simp only [Act.put, List.setIfInBounds_toArray, List.set_cons_zero, List.set_cons_succ])); (refine wpAnyU_take 5 (oi := ?_) (v := ?_) (by kernel_rfl) (by kernel_rfl) (by kernel_rfl) (by kernel_rfl) (by first | exact hSn | exact hHeld) ?_ ?_ ?_ ?_ ?_; rotate_left 2; (simp only [List.getElem?_toArray, List.getElem?_cons_succ, List.getElem?_cons_zero]; rfl); rfl; (intro wS hSw; obtain ⟨S1, S2, S3, S4⟩ := hSw; go_simp; try with_reducible rfl); (exact fun _ _ _ h => h); (try simp only [Act.put, List.setIfInBounds_toArray, List.set_cons_zero, List.set_cons_succ])); (refine wpAnyU_take 6 (oi := ?_) (v := ?_) (by kernel_rfl) (by kernel_rfl) (by kernel_rfl) (by kernel_rfl) (by first | exact hSn | exact hHeld) ?_ ?_ ?_ ?_ ?_; rotate_left 2; (simp only [List.getElem?_toArray, List.getElem?_cons_succ, List.getElem?_cons_zero]; rfl); rfl; (intro wS hSw; obtain ⟨S1, S2, S3, S4⟩ := hSw; go_simp; try with_reducible rfl); (exact fun _ _ _ h => h); (try simp only [Act.put, List.setIfInBounds_toArray, List.set_cons_zero, List.set_cons_succ])); (refine wpAnyU_take 7 (oi := ?_) (v := ?_) (by kernel_rfl) (by kernel_rfl) (by kernel_rfl) (by kernel_rfl) (by first | exact hSn | exact hHeld) ?_ ?_ ?_ ?_ ?_; rotate_left 2; (simp only [List.getElem?_toArray, List.getElem?_cons_succ, List.getElem?_cons_zero]; rfl); rfl; (intro wS hSw; obtain ⟨S1, S2, S3, S4⟩ := hSw; go_simp; try with_reducible rfl); (exact fun _ _ _ h => h); (try simp only [Act.put, List.setIfInBounds_toArray, List.set_cons_zero, List.set_cons_succ])))
      ((refine wpAnyU_one 8 (o := ?_) (by kernel_rfl) ?_ ?_; rotate_left 1; (simp only [List.getElem?_toArray, List.getElem?_cons_succ, List.getElem?_cons_zero]; rfl); intro K hK); go_simp; (refine (int_mul _ _ _ _ (z k) c _ HMd.out HIK.out.toV HCd.out HD.out).mono ?_); rintro e_ wz ⟨e0, e1, rfl, hr, he1⟩; go_wp2_with (fail); (try clear hSn); (have hSn := hHeld.ext he1); (refine hK.out _ _ (fun _ => hSn) ?_); clear hK K; (try simp only [Act.put, List.setIfInBounds_toArray, List.set_cons_zero, List.set_cons_succ]))
      rename_i wz
      (refine wpAnyU_one 9 (o := ?_) (by kernel_rfl) ?_ ?_; rotate_left 1; (simp only [List.getElem?_toArray, List.getElem?_cons_succ, List.getElem?_cons_zero]; rfl); intro K hK)
      go_simp
      refine hK.out _ _ (fun _ => hSn) ?_
      clear hK K
      (try simp only [Act.put, List.setIfInBounds_toArray, List.set_cons_zero, List.set_cons_succ])
      (refine wpAnyU_one 10 (o := ?_) (by kernel_rfl) ?_ ?_; rotate_left 1; (simp only [List.getElem?_toArray, List.getElem?_cons_succ, List.getElem?_cons_zero]; rfl); intro K hK)
      go_simp
      refine hK.out _ _ (fun _ => hSn) ?_
      clear hK K
      (try simp only [Act.put, List.setIfInBounds_toArray, List.set_cons_zero, List.set_cons_succ])
      obtain ⟨b2, a2, n2, p2, rfl, rfl⟩ := hr.form
      have hBz := HBd.out.ext he1
      obtain ⟨T1, T2, T3, T4⟩ := hSn
      have hf0 := hBz.frozen (k * 6)
      have hf1 := hBz.frozen (k * 6 + 1)
      have hstz : ScSt M (w.heap.size + 1) wz (.slice (some ⟨g, 0, none⟩) n uc) n z (fun i => (x i).m) k c := by
        obtain ⟨X, hO, hX⟩ := HST.out
        exact ⟨X, hO.ext ((Ext.refl wr).drew.trans he1), fun i hi => ⟨(hX i hi).1.ext ((Ext.refl wr).drew.trans he1), (hX i hi).2⟩⟩
      obtain ⟨hs2, hbg⟩ := hstz.step hlt hr
      have hne : w.heap.size ≠ g := by omega
      ((refine wpAnyU_one 11 (o := ?_) (by kernel_rfl) ?_ ?_; rotate_left 1; (simp only [List.getElem?_toArray, List.getElem?_cons_succ, List.getElem?_cons_zero]; rfl); intro K hK); go_simp; (refine hK.out _ _ (fun h => absurd rfl h) ?_); clear hK K; refine wpAnyU_done (by kernel_rfl) ?_ _)
      have hq0 := ks hne (ks hne T1 (u := .bool b2) (k := k * 6)) (u := .slice a2 n2 p2) (k := k * 6 + 1)
      have hq1 := ks hne (ks hne T2 (u := .bool b2) (k := k * 6)) (u := .slice a2 n2 p2) (k := k * 6 + 1)
      have heF : Ext w ((wz.setCell ⟨g, k * 6, none⟩ (.bool b2)).setCell ⟨g, k * 6 + 1, none⟩ (.slice a2 n2 p2)) := ((her'.trans he1).set (p := ⟨g, k * 6, none⟩) (by simp; omega) _).set (p := ⟨g, k * 6 + 1, none⟩) (by simp; omega) _
      clear hBz T1 T2 T3 T4 hf0 hf1 hstz hr he1 hHeld her her'
      go_wp2
      go_roundw
      case rel => exact ⟨k + 1, by omega, by go_num, hs2, hq0, hq1, heF⟩
      case measure => simp [intOf]; omega
    · have : k = n := by omega
      subst this
      have HF : Hid (PolyO M w.heap.size wr (.slice ua k uc) (norm (smul c l))) := by
        obtain ⟨X, hO, hX⟩ := hst
        have hown := HO.out
        refine PolyO.base (B := w.heap.size + 1) ⟨k, fun i => z i * c, X, hO, fun i hi => by have h1 := (hX i hi).1; rw [if_pos hi] at h1; exact h1, ?_, hn, hown⟩ (by omega)
        rw [← norm_smul HZ.out, HLE.out]
        unfold smul
        rw [List.map_map]
        apply List.map_congr_left
        intro i hi
        have hi' : i < k := by simpa using hi
        show (c * z i, (x i).m) = (z i * c, (X i).m)
        rw [(hX i hi').2, Int.mul_comm]
      clear hst hc0 hc1
      go_wp2
      go_ret
      exact ⟨_, rfl, HF.out, her⟩
theorem sp_neg (M : Nat → Prop) (v : Value) (l : List Tm) (w : World) (hM : Mb M w) (hP : PolyV M w v l) (hL : dlen (nrm l) + 1 ≤ 95) :
    Calls Try.prog 36 #[v] w fun e w' => ∃ u, e = .returned u ∧ PolyO M w.heap.size w' u (norm (smul (-1) l)) ∧ Ext w w' := by
  obtain ⟨va, vc, rfl⟩ := hP.form
  have HP := Lib.hid hP
  have HL : Hid (dlen (nrm l) + dlen ((-1 : Int)).natAbs ≤ 95) := by
    show _ ≤ _
    rw [show dlen ((-1 : Int)).natAbs = 1 by decide]; exact hL
  clear hP hL
  go_enter Try.func36, Try.ntmps36
  go_wp2_with (fail)
  refine (int_of (M := M) (-1) _ hM (by omega) (by omega)).mono ?_
  rintro e w1 ⟨e0, e1, rfl, hr, he1⟩
  obtain ⟨b2, a2, n2, p2, rfl, rfl⟩ := hr.form
  go_wp2_with (fail)
  refine (sp_scale M _ l b2 a2 n2 p2 (-1) w1 (hM.ext he1) (HP.out.ext he1) hr.toV HL.out).mono ?_
  rintro e w2 ⟨u, rfl, hu, he2⟩
  have HU : Hid (PolyO M w.heap.size w2 u (norm (smul (-1) l))) := hu.base he1.size
  have HE := Lib.hid (he1.trans he2)
  clear hu he1 he2 hr
  go_wp2
  go_ret
  exact ⟨u, rfl, HU.out, HE.out⟩
theorem sp_sub (M : Nat → Prop) (v u : Value) (l r : List Tm) (w : World) (hM : Mb M w) (hP : PolyV M w v l) (hQ : PolyV M w u r) (hl : (l ++ r).length ≤ 1099511627776) (hL : dlen (nrm (l ++ r)) ≤ 1099511627776) (hL2 : dlen (nrm r) + 1 ≤ 95) :
    Calls Try.prog 32 #[v, u] w fun e w' => ∃ x, e = .returned x ∧ PolyO M w.heap.size w' x (norm (l ++ smul (-1) r)) ∧ Ext w w' := by
  obtain ⟨va, vc, rfl⟩ := hP.form
  obtain ⟨ua, uc, rfl⟩ := hQ.form
  have hs : nrm (norm (smul (-1) r)) ≤ nrm r := by
    refine Nat.le_trans (norm_nrm _) ?_
    rw [nrm_smul]; simp
  have hs2 : (norm (smul (-1) r)).length ≤ r.length := by
    refine Nat.le_trans (norm_length _) ?_
    simp [smul]
  have HP := Lib.hid hP
  have HQ := Lib.hid hQ
  have HL1 : Hid ((l ++ norm (smul (-1) r)).length ≤ 1099511627776) := by show _ ≤ _; simp only [List.length_append] at hl ⊢; omega
  have HL3 : Hid (dlen (nrm (l ++ norm (smul (-1) r))) ≤ 1099511627776) := by
    refine Nat.le_trans (dlen_mono ?_) hL
    rw [nrm_append, nrm_append]; omega
  have HR : Hid (norm (l ++ norm (smul (-1) r)) = norm (l ++ smul (-1) r)) := norm_congr fun m hm => by
    rw [coefAt_append, coefAt_append, norm_coef_nn _ _ hm]
  have HL2 := Lib.hid hL2
  clear hP hQ hs hs2 hl hL hL2
  go_enter Try.func32, Try.ntmps32
  go_wp2_with (fail)
  refine (sp_neg M _ r _ hM HQ.out HL2.out).mono ?_
  rintro e w1 ⟨x, rfl, hx, he1⟩
  have HX := Lib.hid hx
  obtain ⟨xa, xc, rfl⟩ := hx.toV.form
  clear hx
  go_wp2_with (fail)
  refine (sp_add M _ _ l _ w1 (hM.ext he1) (HP.out.ext he1) HX.out.toV HL1.out HL3.out).mono ?_
  rintro e w2 ⟨y, rfl, hy, he2⟩
  rw [HR.out] at hy
  have HY : Hid (PolyO M w.heap.size w2 y (norm (l ++ smul (-1) r))) := hy.base he1.size
  have HE := Lib.hid (he1.trans he2)
  clear hy he1 he2
  go_wp2
  go_ret
  exact ⟨y, rfl, HY.out, HE.out⟩
end Go.Proofs.Ythhffpimcgmciaa

namespace Go.Proofs.Ythhffpimcgmciaa
open Go.RowKit

section
variable {P : Program} {ops : Array Oper} {Q : Exit → Act → World → Prop} {md : Region.Mode} {S : World → Prop} {last : Nat}
/-- whatever is listed has its forerunners listed -/
def Cl (md : Region.Mode) (ops : Array Oper) (listed : Array Bool) : Prop := ∀ (j : Nat) (o : Oper), ops[j]? = some o → listed.getD j false = true → ∀ e ∈ o.after, Region.binds md e = true → listed.getD e.on false = true
def clB (md : Region.Mode) (ops : Array Oper) (listed : Array Bool) : Bool := (List.range ops.size).all fun j => !listed.getD j false || ((ops[j]?).map fun o => o.after.all fun e => !Region.binds md e || listed.getD e.on false).getD true
theorem clB_spec {listed : Array Bool} (h : clB md ops listed = true) : Cl md ops listed := by
  intro j o ho hl e he hb
  have hj : j < ops.size := (Array.getElem?_eq_some_iff.1 ho).1
  unfold clB at h
  rw [List.all_eq_true] at h
  have h1 := h j (List.mem_range.2 hj)
  rw [hl, ho] at h1
  simp only [Bool.not_true, Bool.false_or, Option.map_some, Option.getD_some, Array.all_eq_true_iff_forall_mem] at h1
  have h2 := h1 e he
  rw [hb] at h2
  simpa using h2
/-- j waits for i, through at most f others -/
def reachB (md : Region.Mode) (ops : Array Oper) : Nat → Nat → Nat → Bool
  | 0, _, _ => false
  | f + 1, j, i => ((ops[j]?).map fun o => o.after.any fun e => Region.binds md e && (e.on == i || reachB md ops f e.on i)).getD false
theorem reach_listed {listed : Array Bool} (hc : Cl md ops listed) (i : Nat) : ∀ (f j : Nat), reachB md ops f j i = true → (∀ o, ops[j]? = some o → ∀ e ∈ o.after, Region.binds md e = true → listed.getD e.on false = true) → listed.getD i false = true
  | 0, _, h, _ => by simp [reachB] at h
  | f + 1, j, h, hp => by
    unfold reachB at h
    cases ho : ops[j]? with
    | none => rw [ho] at h; simp at h
    | some o =>
      rw [ho] at h
      simp only [Option.map_some, Option.getD_some, Array.any_eq_true, Bool.and_eq_true, Bool.or_eq_true, beq_iff_eq] at h
      obtain ⟨k, hk, hb, he⟩ := h
      have h1 := hp o ho _ (Array.getElem_mem hk) hb
      rcases he with he | he
      · rw [← he]; exact h1
      · exact reach_listed hc i f _ he fun o' ho' e' he' hb' => hc _ o' ho' h1 e' he' hb'
theorem Cl.step {listed : Array Bool} (hc : Cl md ops listed) {j : Nat} (hj : j ∈ Region.ready md ops listed) : Cl md ops (listed.setIfInBounds j true) := by
  intro k o ho hl e he hb
  by_cases hkj : k = j
  · subst hkj
    obtain ⟨_, o', ho', hall⟩ := mem_ready.1 hj
    rw [ho] at ho'
    cases ho'
    exact getD_set_true (hall e he hb)
  · rw [getD_set_ne false (Ne.symm hkj)] at hl
    exact getD_set_true (hc k o ho hl e he hb)
theorem not_readyT {i f : Nat} {listed : Array Bool} (hc : Cl md ops listed) (hw : reachB md ops f last i = true) (hr : i ∈ Region.ready md ops listed) : last ∉ Region.ready md ops listed := by
  intro hl
  obtain ⟨_, o, ho, hall⟩ := mem_ready.1 hl
  have h1 := reach_listed hc i f last hw fun o' ho' e he hb => by
    rw [ho] at ho'
    cases ho'
    exact hall e he hb
  have h0 := (mem_ready.1 hr).1
  rcases Nat.lt_or_ge i listed.size with h' | h'
  · simp [h'] at h0 h1; rw [h0] at h1; cases h1
  · simp [Array.getElem?_eq_none h'] at h1
theorem wpAnyU_firstT {i f : Nat} {oi : Oper} {v : Value} (hi : ops[i]? = some oi) (hsel : ∀ (j : Nat) (o : Oper) cs b, ops[j]? = some o → o.op ≠ .select cs b)
    (hQ : ∀ c a w, Q (.panic c) (a.put oi.dst v) w → Q (.panic c) a w) (hw : reachB md ops f last i = true) :
    ∀ (fuel : Nat) (listed : Array Bool) (a : Act) (w : World), Cl md ops listed → 
      (∀ j oj, ops[j]? = some oj → j ≠ i → listed.getD j true = false → (∀ e ∈ oj.after, Region.binds md e = true → e.on ≠ i) → oi.apart ops oj = true) →
      i ∈ Region.ready md ops listed → YieldsIf P ops S oi v a → S w →
      wpAnyU P md ops Q S last fuel (listed.setIfInBounds i true) (a.put oi.dst v) w → wpAnyU P md ops Q S last (fuel + 1) listed a w := by
  intro fuel
  induction fuel with
  | zero =>
    intro listed a w _ _ hr hy hS H
    refine ⟨fun h => (by rw [h] at hr; cases hr), fun j hj => ?_⟩
    by_cases hji : j = i
    · subst hji; exact hy.wpOp hi hS ⟨fun _ => hS, H⟩
    · have := ready_mono hj hji
      rw [H.1] at this
      cases this
  | succ fuel ih =>
    intro listed a w hcl hfree hr hy hS H
    refine ⟨fun h => (by rw [h] at hr; cases hr), fun j hj => ?_⟩
    by_cases hji : j = i
    · subst hji; exact hy.wpOp hi hS ⟨fun _ => hS, H⟩
    · have h1 := H.2 j (ready_mono hj hji)
      have hjl : j ≠ last := fun e => not_readyT hcl hw hr (e ▸ hj)
      obtain ⟨hjun, oj, hoj, hall⟩ := mem_ready.1 hj
      have hnot : ∀ e ∈ oj.after, Region.binds md e = true → e.on ≠ i := fun e he hb heq => by
        have h1 := hall e he hb
        have h0 := (mem_ready.1 hr).1
        rw [heq] at h1
        rcases Nat.lt_or_ge i listed.size with h' | h'
        · simp [h'] at h0 h1; rw [h0] at h1; cases h1
        · simp [Array.getElem?_eq_none h'] at h1
      have h2 := wpOp_putIf hoj (hfree j oj hoj hji hjun hnot) (fun cs b => hsel i oi cs b hi) (fun cs b => hsel j oj cs b hoj) hQ hy h1
      have hfree' : ∀ k ok, ops[k]? = some ok → k ≠ i → (listed.setIfInBounds j true).getD k true = false →
          (∀ e ∈ ok.after, Region.binds md e = true → e.on ≠ i) → oi.apart ops ok = true := fun k ok hk hki hun hno => by
        refine hfree k ok hk hki ?_ hno
        by_cases hjk : j = k
        · subst hjk; exact hjun
        · rw [getD_set_ne true hjk] at hun; exact hun
      refine wpOp_mono (fun a' w' h3 => ⟨fun _ => h3.2.1 hjl, ih (listed.setIfInBounds j true) a' w' (hcl.step hj) hfree' (ready_mono hr (Ne.symm hji)) h3.1 (h3.2.1 hjl) ?_⟩) h2
      rw [Array.setIfInBounds_comm _ _ hji]
      exact h3.2.2
/-- take number i first -/
theorem wpAnyU_takeT (i : Nat) {oi : Oper} {v : Value} {fuel : Nat} {listed : Array Bool} {a : Act} {w : World} 
    (hs : Region.noSelect ops = true) (hf : Region.free md ops listed i = true) (hr : (Region.ready md ops listed).contains i = true) (hl : reachB md ops ops.size last i = true) (hc : clB md ops listed = true) (hS : S w)
    (hi : ops[i]? = some oi) (hwd : Region.wanted oi (yielded ops a.tmps) = true) (hy : ∀ w, S w → (execOp a.eval oi).run P w = .ok (.value v) w) (hQ : ∀ c a w, Q (.panic c) (a.put oi.dst v) w → Q (.panic c) a w)
    (h : wpAnyU P md ops Q S last fuel (listed.setIfInBounds i true) (a.put oi.dst v) w) : wpAnyU P md ops Q S last (fuel + 1) listed a w :=
  wpAnyU_firstT hi (Region.noSelect_spec hs) hQ hl fuel listed a w (clB_spec hc) (Region.free_spec hi hf) (by simpa using hr) (.inl ⟨hwd, hy⟩) hS h
end
end Go.Proofs.Ythhffpimcgmciaa

namespace Go.Proofs.Ythhffpimcgmciaa
open Go.RowKit

theorem pmul_one_take (s t : Tm) (R : List Tm) (j : Nat) (h : R.take (j + 1) = R.take j ++ [t]) : pmul [s] (R.take (j + 1)) = pmul [s] (R.take j) ++ [(s.1 * t.1, Mo.add s.2 t.2)] := by
  rw [h]
  simp [pmul, shift, smul, Mo.add_comm']
/-- the products that Mul has gathered -/
def mulAcc (P R : List Tm) (i j : Nat) : List Tm := pmul (P.take i) R ++ pmul ((P.drop i).take 1) (R.take j)
theorem mulAcc_zero (P R : List Tm) : mulAcc P R 0 0 = [] := by simp [mulAcc, pmul, pmul_nil]
theorem mulAcc_row (P R : List Tm) (i : Nat) (s : Tm) (hP : P.take (i + 1) = P.take i ++ [s]) : mulAcc P R i R.length = mulAcc P R (i + 1) 0 := by
  have hd : (P.drop i).take 1 = [s] := by
    have h1 := congrArg (List.drop i) hP
    rw [List.drop_append, List.drop_take] at h1
    have h2 : (P.take i).length = i := by
      have := congrArg List.length hP
      simp at this
      simp; omega
    simp only [h2, Nat.sub_self, List.drop_zero, Nat.add_sub_cancel_left] at h1
    rw [h1, List.drop_of_length_le (by omega)]
    rfl
  unfold mulAcc
  rw [hP, hd, pmul_append_left, List.take_length, List.take_zero, pmul_nil, List.append_nil]
theorem mulAcc_step (P R : List Tm) (i j : Nat) (s t : Tm) (hP : P.take (i + 1) = P.take i ++ [s]) (hR : R.take (j + 1) = R.take j ++ [t]) : mulAcc P R i (j + 1) = mulAcc P R i j ++ [(s.1 * t.1, Mo.add s.2 t.2)] := by
  have hd : (P.drop i).take 1 = [s] := by
    have h1 := congrArg (List.drop i) hP
    rw [List.drop_append, List.drop_take] at h1
    have h2 : (P.take i).length = i := by
      have := congrArg List.length hP
      simp at this
      simp; omega
    simp only [h2, Nat.sub_self, List.drop_zero, Nat.add_sub_cancel_left] at h1
    rw [h1, List.drop_of_length_le (by omega)]
    rfl
  unfold mulAcc
  rw [hd, pmul_one_take s t R j hR, List.append_assoc]
theorem pmul_length (P R : List Tm) : (pmul P R).length = P.length * R.length := by
  induction P with
  | nil => simp [pmul]
  | cons s P ih => simp [pmul, shift, smul, ih, Nat.add_mul]; omega
theorem nrm_take_le (P : List Tm) (i : Nat) : nrm (P.take i) ≤ nrm P := by
  conv => rhs; rw [← List.take_append_drop i P]
  rw [nrm_append]; omega
theorem mulAcc_le (P R : List Tm) (i j : Nat) : nrm (mulAcc P R i j) ≤ nrm P * nrm R := by
  unfold mulAcc
  rw [nrm_append, nrm_pmul, nrm_pmul]
  have h1 : nrm (R.take j) ≤ nrm R := nrm_take_le R j
  have h2 : nrm (P.take i) + nrm ((P.drop i).take 1) ≤ nrm P := by
    conv => rhs; rw [← List.take_append_drop i P]
    rw [nrm_append]
    have := nrm_take_le (P.drop i) 1
    omega
  calc nrm (P.take i) * nrm R + nrm ((P.drop i).take 1) * nrm (R.take j) ≤ nrm (P.take i) * nrm R + nrm ((P.drop i).take 1) * nrm R := Nat.add_le_add_left (Nat.mul_le_mul_left _ h1) _
    _ = (nrm (P.take i) + nrm ((P.drop i).take 1)) * nrm R := (Nat.add_mul _ _ _).symm
    _ ≤ nrm P * nrm R := Nat.mul_le_mul_right _ h2
theorem mulAcc_len (P R : List Tm) (i j : Nat) : (mulAcc P R i j).length ≤ P.length * R.length := by
  unfold mulAcc
  rw [List.length_append, pmul_length, pmul_length]
  have h1 : (R.take j).length ≤ R.length := by simp; omega
  have h2 : (P.take i).length + ((P.drop i).take 1).length ≤ P.length := by simp; omega
  calc (P.take i).length * R.length + ((P.drop i).take 1).length * (R.take j).length ≤ (P.take i).length * R.length + ((P.drop i).take 1).length * R.length := Nat.add_le_add_left (Nat.mul_le_mul_left _ h1) _
    _ = ((P.take i).length + ((P.drop i).take 1).length) * R.length := (Nat.add_mul _ _ _).symm
    _ ≤ P.length * R.length := Nat.mul_le_mul_right _ h2
/-- what the loads of Mul's region read -/
def SMu (bm bs bt : Nat) (m : Mo) (c0 c1 d0 d1 : Value) (w : World) : Prop := (w.cell? ⟨bm, 0, none⟩ = some (.int .i64 m.a) ∧ w.cell? ⟨bm, 1, none⟩ = some (.int .i64 m.b) ∧ w.cell? ⟨bm, 2, none⟩ = some (.int .i64 m.c) ∧ w.cell? ⟨bm, 3, none⟩ = some (.int .i64 m.d)) ∧
  (w.cell? ⟨bs, 0, none⟩ = some c0 ∧ w.cell? ⟨bs, 1, none⟩ = some c1) ∧ (w.cell? ⟨bt, 0, none⟩ = some d0 ∧ w.cell? ⟨bt, 1, none⟩ = some d1)
theorem SMu.ext {bm bs bt : Nat} {m : Mo} {c0 c1 d0 d1 : Value} {w w' : World} (h : SMu bm bs bt m c0 c1 d0 d1 w) (he : Ext w w') : SMu bm bs bt m c0 c1 d0 d1 w' := by
  have h1 := World.block_lt_of_cell? _ _ h.1.1
  have h2 := World.block_lt_of_cell? _ _ h.2.1.1
  have h3 := World.block_lt_of_cell? _ _ h.2.2.1
  unfold SMu; rw [he.cell h1, he.cell h1, he.cell h1, he.cell h1, he.cell h2, he.cell h2, he.cell h3, he.cell h3]; exact h
set_option maxRecDepth 100000 in
set_option maxHeartbeats 8000000 in
theorem sp_mul (M : Nat → Prop) (v u : Value) (l r : List Tm) (w : World) (hM : Mb M w) (hP : PolyV M w v l) (hQ : PolyV M w u r) (hl : l.length * r.length ≤ 1099511627776) (hL : dlen (nrm l) + dlen (nrm r) ≤ 95)
    (hel : ∀ s ∈ l, ∀ k, s.2.get k ≤ 1073741824) (her : ∀ s ∈ r, ∀ k, s.2.get k ≤ 1073741824) :
    Calls Try.prog 34 #[v, u] w fun e w' => ∃ x, e = .returned x ∧ PolyO M w.heap.size w' x (norm (pmul (norm l) (norm r))) ∧ Ext w w' := by
  obtain ⟨va, vc, rfl⟩ := hP.form
  obtain ⟨ua, uc, rfl⟩ := hQ.form
  have HP := Lib.hid hP
  have HQ := Lib.hid hQ
  have HL := Lib.hid hL
  have HLL := Lib.hid hl
  have HEL := Lib.hid hel
  have HER := Lib.hid her
  clear hP hQ hL hl hel her
  go_enter Try.func34, Try.ntmps34
  go_wp2_with (fail)
  refine (sp_normal M _ l _ hM HP.out (by have := HL.out; omega)).mono ?_
  rintro e w1 ⟨p, rfl, hp, he1⟩
  go_wp2_with (fail)
  refine (sp_normal M _ r _ (hM.ext he1) (HQ.out.ext he1) (by have := HL.out; omega)).mono ?_
  rintro e w2 ⟨q, rfl, hq, he2⟩
  have HPP := Lib.hid (hp.toV.ext he2)
  have HQQ := Lib.hid hq.toV
  have hE2 := he1.trans he2
  obtain ⟨pa, pc, rfl⟩ := HPP.out.form
  obtain ⟨qa, qc, rfl⟩ := HQQ.out.form
  have hM2 := hM.ext hE2
  clear hp hq he1 he2
  go_wp2_with (fail)
  refine (gacc_mk M w2).mono ?_
  rintro e w3 ⟨rfl, hG, he3⟩
  have hpl : (norm l).length ≤ 1099511627776 := HPP.out.len
  have hql : (norm r).length ≤ 1099511627776 := HQQ.out.len
  have hnb : ∀ (l : List Tm), (∀ s ∈ l, ∀ k, s.2.get k ≤ 1073741824) → ∀ (c : Int) (m : Mo), (c, m) ∈ norm l → (0 ≤ m.a ∧ m.a ≤ 1073741824) ∧ (0 ≤ m.b ∧ m.b ≤ 1073741824) ∧ (0 ≤ m.c ∧ m.c ≤ 1073741824) ∧ (0 ≤ m.d ∧ m.d ≤ 1073741824) := by
    intro l hl c m hm
    obtain ⟨s, hs, e⟩ := norm_mem hm
    have h1 := (Mo.nn_iff m).1 ((norm_canon l).2 _ hm).2
    have h2 := hl s hs
    rw [e] at h2
    have ha := h2 1; have hb := h2 2; have hc := h2 3; have hd := h2 4
    simp [Mo.get] at ha hb hc hd
    omega
  have HNBL : Hid (∀ (c : Int) (m : Mo), (c, m) ∈ norm l → (0 ≤ m.a ∧ m.a ≤ 1073741824) ∧ (0 ≤ m.b ∧ m.b ≤ 1073741824) ∧ (0 ≤ m.c ∧ m.c ≤ 1073741824) ∧ (0 ≤ m.d ∧ m.d ≤ 1073741824)) := hnb l HEL.out
  have HNBR : Hid (∀ (c : Int) (m : Mo), (c, m) ∈ norm r → (0 ≤ m.a ∧ m.a ≤ 1073741824) ∧ (0 ≤ m.b ∧ m.b ≤ 1073741824) ∧ (0 ≤ m.c ∧ m.c ≤ 1073741824) ∧ (0 ≤ m.d ∧ m.d ≤ 1073741824)) := hnb r HER.out
  have HLN : Hid (dlen (nrm (norm l)) + dlen (nrm (norm r)) ≤ 95) := Nat.le_trans (Nat.add_le_add (dlen_mono (norm_nrm l)) (dlen_mono (norm_nrm r))) HL.out
  have HLM : Hid ((norm l).length * (norm r).length ≤ 1099511627776) := Nat.le_trans (Nat.mul_le_mul (norm_length l) (norm_length r)) HLL.out
  clear hnb HEL HER HL HLL HP HQ
  rw [← mulAcc_zero (norm l) (norm r)] at hG
  generalize hPe : norm l = P at *
  have HPE := Lib.hid hPe
  clear hPe
  generalize hRe : norm r = R at *
  have HRE := Lib.hid hRe
  clear hRe
  go_wp2
  go_loopw [20] (fun i wr => ∃ k : Nat, k ≤ P.length ∧ i = .int .i64 k ∧ GAcc M w2.heap.size wr (w2.heap.size + 1) (mulAcc P R k 0) ∧ Ext w2 wr) (fun i _ => P.length - (intOf i).toNat)
  case atStart => exact ⟨0, Nat.zero_le _, rfl, hG, he3⟩
  case round =>
    clear hG he3
    obtain ⟨k, hk, rfl, hG, her⟩ := hrel
    by_cases hlt : k < P.length
    · have hkd : decide (k < P.length) = true := by simp; omega
      obtain ⟨b, off, c, s, b1, a1, n1, p1, hpa, hcap, hmx, hb, x0, x1, x2, x3, x4, x5, hI, hT, hmem⟩ := HPP.out.at (k := k) hlt
      subst hpa
      have hsb := HNBL.out c s hmem
      rw [← her.cell hb] at x0 x1 x2 x3 x4 x5
      have hsz := her.size
      have hbw : b < wr.heap.size := by omega
      have HI := Lib.hid hI
      have HT := Lib.hid hT
      have hBs := Blk.of_arr wr #[.bool b1, .slice a1 n1 p1, .int .i64 s.a, .int .i64 s.b, .int .i64 s.c, .int .i64 s.d] 83 6 rfl
      have hEs : Ext wr (wr.alloc (.cells #[.bool b1, .slice a1 n1 p1, .int .i64 s.a, .int .i64 s.b, .int .i64 s.c, .int .i64 s.d] 83)) := (Ext.refl wr).alloc _
      have hGs := hG.ext hEs
      have hNs : ¬ GBlk (wr.alloc (.cells #[.bool b1, .slice a1 n1 p1, .int .i64 s.a, .int .i64 s.b, .int .i64 s.c, .int .i64 s.d] 83)) (w2.heap.size + 1) wr.heap.size := fun h => by
        have := (hG.gblk (h.ext hEs hG.lt.2)).2; omega
      have herS := her.trans hEs
      clear hI hT hmem hG
      go_wp2
      generalize wr.alloc (.cells #[.bool b1, .slice a1 n1 p1, .int .i64 s.a, .int .i64 s.b, .int .i64 s.c, .int .i64 s.d] 83) = wS at hGs herS hBs hNs ⊢
      clear x0 x1 x2 x3 x4 x5 her hEs
      generalize wr.heap.size = sb at *
      go_loopw [26] (fun i wz => ∃ j : Nat, j ≤ R.length ∧ i = .int .i64 j ∧ GAcc M w2.heap.size wz (w2.heap.size + 1) (mulAcc P R k j) ∧ Ext w2 wz ∧ Blk wz sb 83 6 (arr #[.bool b1, .slice a1 n1 p1, .int .i64 s.a, .int .i64 s.b, .int .i64 s.c, .int .i64 s.d]) ∧ ¬ GBlk wz (w2.heap.size + 1) sb) (fun i _ => R.length - (intOf i).toNat)
      case atStart => exact ⟨0, Nat.zero_le _, rfl, hGs, herS, hBs, hNs⟩
      case round =>
        clear hGs herS hBs hNs wS
        obtain ⟨j, hj, rfl, hG2, hez, hBz, hNz⟩ := hrel
        by_cases hlj : j < R.length
        · obtain ⟨bq, offq, d, t, b3, a3, n3, p3, hqa, hcapq, hmxq, hbq, y0, y1, y2, y3, y4, y5, hIq, hTq, hmemq⟩ := HQQ.out.at (k := j) hlj
          subst hqa
          have htb := HNBR.out d t hmemq
          rw [← hez.cell hbq] at y0 y1 y2 y3 y4 y5
          have hszz := hez.size
          have hbqw : bq < wr.heap.size := by omega
          have hsbw := hBz.lt
          have HIQ := Lib.hid hIq
          have HTQ := Lib.hid hTq
          have z0 := hBz.cell (i := 0) (by omega)
          have z1 := hBz.cell (i := 1) (by omega)
          have z2 := hBz.cell (i := 2) (by omega)
          have z3 := hBz.cell (i := 3) (by omega)
          have z4 := hBz.cell (i := 4) (by omega)
          have z5 := hBz.cell (i := 5) (by omega)
          simp only [arr] at z0 z1 z2 z3 z4 z5
          clear hIq hTq hmemq
          obtain ⟨⟨sa1, sa2⟩, ⟨sb1, sb2⟩, ⟨sc1, sc2⟩, sd1, sd2⟩ := hsb
          obtain ⟨⟨ta1, ta2⟩, ⟨tb1, tb2⟩, ⟨tc1, tc2⟩, td1, td2⟩ := htb
          have i0 : ∀ w, (Instr.index 81 (.agg #[.int .i64 t.a, .int .i64 t.b, .int .i64 t.c, .int .i64 t.d]) (.int .i64 0)).run Try.prog w = .ok (.int .i64 t.a) w := fun _ => by kernel_rfl
          have i1 : ∀ w, (Instr.index 81 (.agg #[.int .i64 t.a, .int .i64 t.b, .int .i64 t.c, .int .i64 t.d]) (.int .i64 1)).run Try.prog w = .ok (.int .i64 t.b) w := fun _ => by kernel_rfl
          have i2 : ∀ w, (Instr.index 81 (.agg #[.int .i64 t.a, .int .i64 t.b, .int .i64 t.c, .int .i64 t.d]) (.int .i64 2)).run Try.prog w = .ok (.int .i64 t.c) w := fun _ => by kernel_rfl
          have i3 : ∀ w, (Instr.index 81 (.agg #[.int .i64 t.a, .int .i64 t.b, .int .i64 t.c, .int .i64 t.d]) (.int .i64 3)).run Try.prog w = .ok (.int .i64 t.d) w := fun _ => by kernel_rfl
          go_wp2
          refine wp_loop_rounds 5 ?_
          rw [rounds_succ]
          go_wp2
          rw [rounds_succ]
          go_wp2
          rw [rounds_succ]
          go_wp2
          rw [rounds_succ]
          go_wp2
          rw [rounds_succ]
          go_upto_region 15 with (fail)
          clear y0 y1 y2 y3 y4 y5 z2 z3 z4 z5 i0 i1 i2 i3 sa1 sa2 sb1 sb2 sc1 sc2 sd1 sd2 ta1 ta2 tb1 tb2 tc1 tc2 td1 td2
          have hEa : Ext wr ((wr.alloc (.cells #[.bool b3, .slice a3 n3 p3, .int .i64 t.a, .int .i64 t.b, .int .i64 t.c, .int .i64 t.d] 83)).alloc (.cells #[.int .i64 (s.a + t.a), .int .i64 (s.b + t.b), .int .i64 (s.c + t.c), .int .i64 (s.d + t.d)] 81)) := ((Ext.refl wr).alloc _).alloc _
          have hBt := (Blk.of_arr wr #[.bool b3, .slice a3 n3 p3, .int .i64 t.a, .int .i64 t.b, .int .i64 t.c, .int .i64 t.d] 83 6 rfl).alloc (.cells #[.int .i64 (s.a + t.a), .int .i64 (s.b + t.b), .int .i64 (s.c + t.c), .int .i64 (s.d + t.d)] 81)
          have hBm := Blk.of_arr (wr.alloc (.cells #[.bool b3, .slice a3 n3 p3, .int .i64 t.a, .int .i64 t.b, .int .i64 t.c, .int .i64 t.d] 83)) #[.int .i64 (s.a + t.a), .int .i64 (s.b + t.b), .int .i64 (s.c + t.c), .int .i64 (s.d + t.d)] 81 4 rfl
          simp only [World.size_alloc] at hBm
          generalize (wr.alloc (.cells #[.bool b3, .slice a3 n3 p3, .int .i64 t.a, .int .i64 t.b, .int .i64 t.c, .int .i64 t.d] 83)).alloc (.cells #[.int .i64 (s.a + t.a), .int .i64 (s.b + t.b), .int .i64 (s.c + t.c), .int .i64 (s.d + t.d)] 81) = Wa at hEa hBt hBm ⊢
          have hEd := hEa.trans (Ext.refl Wa).drew
          have HS : Hid (SMu (wr.heap.size + 1) sb wr.heap.size (Mo.add s t) (.bool b1) (.slice a1 n1 p1) (.bool b3) (.slice a3 n3 p3) Wa.drew) := by
            refine SMu.ext (w := Wa) ⟨⟨hBm.cell (i := 0) (by omega), hBm.cell (i := 1) (by omega), hBm.cell (i := 2) (by omega), hBm.cell (i := 3) (by omega)⟩, ?_, hBt.cell (i := 0) (by omega), hBt.cell (i := 1) (by omega)⟩ (Ext.refl Wa).drew
            rw [hEa.cell hsbw, hEa.cell hsbw]
            exact ⟨z0, z1⟩
          have hGd := hG2.ext hEd
          have HMd : Hid (Mb (fun b => M b ∨ GBlk Wa.drew (w2.heap.size + 1) b) Wa.drew) := fun q hq => by
            rcases hq with hq | hq
            · exact hM2.ext (hez.trans hEd) q hq
            · exact (hGd.gblk hq).2
          have HI1 : Hid (IntV (fun b => M b ∨ GBlk Wa.drew (w2.heap.size + 1) b) Wa.drew (.bool b1) (.slice a1 n1 p1) c) := (HI.out.more (fun q hq => hq.imp id (fun h => (hGd.gblk h).1))).ext (hez.trans hEd)
          have HI2 : Hid (IntV (fun b => M b ∨ GBlk Wa.drew (w2.heap.size + 1) b) Wa.drew (.bool b3) (.slice a3 n3 p3) d) := (HIQ.out.more (fun q hq => hq.imp id (fun h => (hGd.gblk h).1))).ext (hez.trans hEd)
          have hmP : (c, s) ∈ P := by
            have : (c, s) ∈ P.take (k + 1) := by rw [HT.out]; simp
            exact List.mem_of_mem_take this
          have hmR : (d, t) ∈ R := by
            have : (d, t) ∈ R.take (j + 1) := by rw [HTQ.out]; simp
            exact List.mem_of_mem_take this
          have HD : Hid (dlen c.natAbs + dlen d.natAbs ≤ 95) := Nat.le_trans (Nat.add_le_add (dlen_mono (nrm_mem hmP)) (dlen_mono (nrm_mem hmR))) HLN.out
          have hstep := mulAcc_step P R k j (c, s) (d, t) HT.out HTQ.out
          have HN1 : Hid ((mulAcc P R k j).length + 1 ≤ 1099511627776) := by
            have h1 := mulAcc_len P R k (j + 1)
            rw [hstep, List.length_append] at h1
            have := HLM.out
            simp at h1
            show _ ≤ _; omega
          have HN2 : Hid (dlen (nrm (mulAcc P R k j) + (c * d).natAbs) ≤ 1099511627776) := by
            have h1 := mulAcc_le P R k (j + 1)
            rw [hstep, nrm_append] at h1
            simp only [nrm, Nat.add_zero] at h1
            have h2 := dlen_mul (nrm P) (nrm R)
            have h3 := HLN.out
            exact Nat.le_trans (dlen_mono h1) (by omega)
          have HST := Lib.hid hstep
          have hbase : w2.heap.size ≤ Wa.drew.heap.size := (hez.trans hEd).size
          clear hmP hmR hstep z0 z1 hBt hBm
          refine wp_region_u (SMu (wr.heap.size + 1) sb wr.heap.size (Mo.add s t) (.bool b1) (.slice a1 n1 p1) (.bool b3) (.slice a3 n3 p3)) 7 (by kernel_rfl) HS.out (fun hHeld => ?_)
          ((refine wpAnyU_takeT 0 (oi := ?_) (v := ?_) (by kernel_rfl) (by kernel_rfl) (by kernel_rfl) (by kernel_rfl) (by kernel_rfl) (by first | exact hSn | exact hHeld) ?_ ?_ ?_ ?_ ?_; rotate_left 2; (simp only [List.getElem?_toArray, List.getElem?_cons_succ, List.getElem?_cons_zero]; rfl); rfl; (intro wS hSw; obtain ⟨⟨S1, S2, S3, S4⟩, ⟨S5, S6⟩, S7, S8⟩ := hSw; go_simp; try with_reducible rfl); (exact fun _ _ _ h => h); (try simp only [Act.put, List.setIfInBounds_toArray, List.set_cons_zero, List.set_cons_succ])); (refine wpAnyU_takeT 1 (oi := ?_) (v := ?_) (by kernel_rfl) (by kernel_rfl) (by kernel_rfl) (by kernel_rfl) (by kernel_rfl) (by first | exact hSn | exact hHeld) ?_ ?_ ?_ ?_ ?_; rotate_left 2; (simp only [List.getElem?_toArray, List.getElem?_cons_succ, List.getElem?_cons_zero]; rfl); rfl; (intro wS hSw; obtain ⟨⟨S1, S2, S3, S4⟩, ⟨S5, S6⟩, S7, S8⟩ := hSw; go_simp; try with_reducible rfl); (exact fun _ _ _ h => h); (try simp only [Act.put, List.setIfInBounds_toArray, List.set_cons_zero, List.set_cons_succ])); (refine wpAnyU_takeT 2 (oi := ?_) (v := ?_) (by kernel_rfl) (by kernel_rfl) (by kernel_rfl) (by kernel_rfl) (by kernel_rfl) (by first | exact hSn | exact hHeld) ?_ ?_ ?_ ?_ ?_; rotate_left 2; (simp only [List.getElem?_toArray, List.getElem?_cons_succ, List.getElem?_cons_zero]; rfl); rfl; (intro wS hSw; obtain ⟨⟨S1, S2, S3, S4⟩, ⟨S5, S6⟩, S7, S8⟩ := hSw; go_simp; try with_reducible rfl); (exact fun _ _ _ h => h); (try simp only [Act.put, List.setIfInBounds_toArray, List.set_cons_zero, List.set_cons_succ])); (refine wpAnyU_takeT 3 (oi := ?_) (v := ?_) (by kernel_rfl) (by kernel_rfl) (by kernel_rfl) (by kernel_rfl) (by kernel_rfl) (by first | exact hSn | exact hHeld) ?_ ?_ ?_ ?_ ?_; rotate_left 2; (simp only [List.getElem?_toArray, List.getElem?_cons_succ, List.getElem?_cons_zero]; rfl); rfl; (intro wS hSw; obtain ⟨⟨S1, S2, S3, S4⟩, ⟨S5, S6⟩, S7, S8⟩ := hSw; go_simp; try with_reducible rfl); (exact fun _ _ _ h => h); (try simp only [Act.put, List.setIfInBounds_toArray, List.set_cons_zero, List.set_cons_succ])); (refine wpAnyU_takeT 4 (oi := ?_) (v := ?_) (by kernel_rfl) (by kernel_rfl) (by kernel_rfl) (by kernel_rfl) (by kernel_rfl) (by first | exact hSn | exact hHeld) ?_ ?_ ?_ ?_ ?_; rotate_left 2; (simp only [List.getElem?_toArray, List.getElem?_cons_succ, List.getElem?_cons_zero]; rfl); rfl; (intro wS hSw; obtain ⟨⟨S1, S2, S3, S4⟩, ⟨S5, S6⟩, S7, S8⟩ := hSw; go_simp; try with_reducible rfl); (exact fun _ _ _ h => h); (try simp only [Act.put, List.setIfInBounds_toArray, List.set_cons_zero, List.set_cons_succ])); (refine wpAnyU_takeT 5 (oi := ?_) (v := ?_) (by kernel_rfl) (by kernel_rfl) (by kernel_rfl) (by kernel_rfl) (by kernel_rfl) (by first | exact hSn | exact hHeld) ?_ ?_ ?_ ?_ ?_; rotate_left 2; (simp only [List.getElem?_toArray, List.getElem?_cons_succ, List.getElem?_cons_zero]; rfl); rfl; (intro wS hSw; obtain ⟨⟨S1, S2, S3, S4⟩, ⟨S5, S6⟩, S7, S8⟩ := hSw; go_simp; try with_reducible rfl); (exact fun _ _ _ h => h); (try simp only [Act.put, List.setIfInBounds_toArray, List.set_cons_zero, List.set_cons_succ])))
          ((refine wpAnyU_one 6 (o := ?_) (by kernel_rfl) ?_ ?_; rotate_left 1; (simp only [List.getElem?_toArray, List.getElem?_cons_succ, List.getElem?_cons_zero]; rfl); intro K hK); go_simp; (refine (int_mul _ _ _ _ c d _ HMd.out HI1.out HI2.out HD.out).mono ?_); rintro e_ wz ⟨e0, e1, rfl, hr, he1⟩; go_wp2_with (fail); (try clear hSn); (have hSn := hHeld.ext he1); (refine hK.out _ _ (fun _ => hSn) ?_); clear hK K; (try simp only [Act.put, List.setIfInBounds_toArray, List.set_cons_zero, List.set_cons_succ]))
          ((refine wpAnyU_one 7 (o := ?_) (by kernel_rfl) ?_ ?_; rotate_left 1; (simp only [List.getElem?_toArray, List.getElem?_cons_succ, List.getElem?_cons_zero]; rfl); intro K hK); go_simp; (refine (gacc_add M w2.heap.size (w2.heap.size + 1) (mulAcc P R k j) (Mo.add s t) _ _ (c * d) _ (hM2.ext ((hez.trans hEd).trans he1)) (hGd.ext he1) (hr.toV.more (fun q hq => .inl (hq.imp id (fun h => h.ext he1 hGd.lt.2)))) HN1.out HN2.out).mono ?_); rintro e_ wz ⟨rfl, hG3, hb3, hf3⟩; go_wp2_with (fail); (refine hK.out _ _ (fun h => absurd rfl h) ?_); clear hK K; refine wpAnyU_done (by kernel_rfl) ?_ _)
          rw [← HST.out] at hG3
          have hEp := hEd.trans he1
          have hNp : ¬ GBlk _ (w2.heap.size + 1) sb := fun h => hNz (h.ext hEp hG2.lt.2)
          have hBp := (hBz.ext hEp).of_heap (hf3.2.1 sb (hBz.ext hEp).lt hNp)
          have hNf := fun h => (hf3.2.2 sb h).elim hNp (by have := (hBz.ext hEp).lt; omega)
          have hEf : Ext w2 _ := Below.trans (Ext.below (hez.trans hEp)) hb3
          clear hHeld hSn hr he1 hb3 hf3 hEp hNp hGd hBz hNz hez hEa hEd hG2
          go_wp2
          go_roundw
          case rel => exact ⟨j + 1, by omega, by go_num, hG3, hEf, hBp, hNf⟩
          case measure => simp [intOf]; omega
        · have hj2 : j = R.length := by omega
          subst hj2
          rw [mulAcc_row P R k (c, s) HT.out] at hG2
          clear hBz hNz
          go_wp2
          go_roundw
          case rel => exact ⟨k + 1, by omega, by go_num, hG2, hez⟩
          case measure => simp [intOf]; omega
    · have hk2 : k = P.length := by omega
      subst hk2
      have hacc : mulAcc P R P.length 0 = pmul P R := by
        unfold mulAcc
        rw [List.take_length, List.take_zero, pmul_nil, List.append_nil]
      rw [hacc] at hG
      clear hacc
      go_wp2_with (fail)
      refine (gacc_poly M w2.heap.size (w2.heap.size + 1) (pmul P R) _ (hM2.ext her) hG).mono ?_
      rintro e w4 ⟨x, rfl, hx, he4⟩
      have HX : Hid (PolyO M w.heap.size w4 x (norm (pmul P R))) := hx.base (hE2.trans her).size
      have HE := Lib.hid ((hE2.trans her).trans he4)
      clear hx he4 her hG
      go_wp2
      go_ret
      exact ⟨x, rfl, by rw [HPE.out, HRE.out]; exact HX.out, HE.out⟩
end Go.Proofs.Ythhffpimcgmciaa

namespace Go.Proofs.Ythhffpimcgmciaa
open Go.RowKit

set_option maxHeartbeats 2000000 in
theorem rp_Neg (M : Nat → Prop) (x : PE) (l : List Tm) (B : Nat) (w : World) (hM : Mb M w) (h : PI M w x l) (hL : dlen (nrm l) + 1 ≤ 95) (hB : Deg B l) (hBC : B + 1 ≤ 1099511627776) :
    Calls Try.prog 35 #[.agg (peA x)] w (RetX M w 4 (pmul l [(-1, Mo.zero)])) := by
  obtain ⟨hE0, hS0, hB0, hM0⟩ := box1 hM x
  have HE := Lib.hid (hE0.trans (Ext.refl _).drew)
  have HS := Lib.hid (hS0.ext (Ext.refl _).drew)
  have HB := Lib.hid (hB0.ext (Ext.refl _).drew)
  have HM := Lib.hid (hM0.ext (Ext.refl _).drew)
  have HX := Lib.hid ((h.more (M' := Mx M w.heap.size (w.heap.size + 2)) (Mx.more (Nat.le_refl _))).ext HE.out)
  have HD := Lib.hid hB
  have HL : Hid (dlen (nrm l) + dlen ((-1 : Int)).natAbs ≤ 95) := by
    show _ ≤ _
    rw [show dlen ((-1 : Int)).natAbs = 1 by decide]; exact hL
  clear hE0 hS0 hB0 hM0 h hB hL
  go_enter Try.func35, Try.ntmps35
  go_wp2
  refine wp_region_u (fun w' => P4 w' w.heap.size x) 3 (by kernel_rfl) HS.out (fun hHeld => ?_)
  ((refine wpAnyU_takeT 0 (oi := ?_) (v := ?_) (by kernel_rfl) (by kernel_rfl) (by kernel_rfl) (by kernel_rfl) (by kernel_rfl) (by first | exact hSn | exact hHeld) ?_ ?_ ?_ ?_ ?_; rotate_left 2; (simp only [List.getElem?_toArray, List.getElem?_cons_succ, List.getElem?_cons_zero]; rfl); rfl; (intro wS hSw; obtain ⟨S1, S2, S3, S4⟩ := hSw; go_simp; try with_reducible rfl); (exact fun _ _ _ h => h); (try simp only [Act.put, List.setIfInBounds_toArray, List.set_cons_zero, List.set_cons_succ])))
  ((refine wpAnyU_one 1 (o := ?_) (by kernel_rfl) ?_ ?_; rotate_left 1; (simp only [List.getElem?_toArray, List.getElem?_cons_succ, List.getElem?_cons_zero]; rfl); intro K hK); go_simp; (refine (int_of (-1) _ HM.out (by omega) (by omega)).mono ?_); rintro e_ wz ⟨e0, e1, rfl, hc, he1⟩; go_wp2_with (fail); (try clear hSn); (have hSn := hHeld.ext he1); (refine hK.out _ _ (fun _ => hSn) ?_); clear hK K; (try simp only [Act.put, List.setIfInBounds_toArray, List.set_cons_zero, List.set_cons_succ]))
  obtain ⟨b2, a2, n2, p2, rfl, rfl⟩ := hc.form
  ((refine wpAnyU_one 2 (o := ?_) (by kernel_rfl) ?_ ?_; rotate_left 1; (simp only [List.getElem?_toArray, List.getElem?_cons_succ, List.getElem?_cons_zero]; rfl); intro K hK); go_simp; (refine (rp_Scale _ x l B b2 a2 n2 p2 (-1) _ (HM.out.ext he1) (HX.out.ext he1) hc.toV HL.out HD.out hBC).mono ?_); rintro e_ wz ⟨v, rfl, hv, he2⟩; go_wp2_with (fail); (try clear hSn); (have hSn := hHeld.ext (he1.trans he2)); (refine hK.out _ _ (fun _ => hSn) ?_); clear hK K; (try simp only [Act.put, List.setIfInBounds_toArray, List.set_cons_zero, List.set_cons_succ]))
  obtain ⟨⟨q0, q1, q2, q3⟩, ⟨f0, f1, f2, f3⟩, ⟨r0, r1, r2, r3⟩, HF⟩ := retX (M := M) (w := w) (HB.out.ext (he1.trans he2)) (Mx.at (by omega)) (by omega) (HE.out.trans (he1.trans he2)) hv Mx.sub
  ((refine wpAnyU_one 3 (o := ?_) (by kernel_rfl) ?_ ?_; rotate_left 1; (simp only [List.getElem?_toArray, List.getElem?_cons_succ, List.getElem?_cons_zero]; rfl); intro K hK); go_simp; (refine hK.out _ _ (fun h => absurd rfl h) ?_); clear hK K; refine wpAnyU_done (by kernel_rfl) ?_ _)
  clear he1 he2 hc hv hHeld
  go_wp2
  exact bodyPost_ret (v := .agg (peA v)) (by simp [results, Try.results35, go_sem, r0, r1, r2, r3]) rfl HF.out
set_option maxHeartbeats 4000000 in
theorem rp_Sub (M : Nat → Prop) (x y : PE) (l r : List Tm) (B : Nat) (w : World) (hM : Mb M w) (h : PI M w x l) (k : PI M w y r) (hL : dlen (nrm (l ++ pmul r [(-1, Mo.zero)])) ≤ 1099511627776) (hL2 : dlen (nrm r) + 1 ≤ 95) (hB : Deg B r) (hBC : B + 1 ≤ 1099511627776) :
    Calls Try.prog 31 #[.agg (peA x), .agg (peA y)] w (RetX M w 4 (l ++ pmul r [(-1, Mo.zero)])) := by
  obtain ⟨hE0, hP0, hP1, hB0, hM0⟩ := box2 hM x y
  have HE := Lib.hid (hE0.trans (Ext.refl _).drew)
  have HS : Hid (SP2 w.heap.size x y _) := SP2.ext ⟨hP0, hP1⟩ (Ext.refl _).drew
  have HB := Lib.hid (hB0.ext (Ext.refl _).drew)
  have HM := Lib.hid (hM0.ext (Ext.refl _).drew)
  have HX := Lib.hid ((h.more (M' := Mx M w.heap.size (w.heap.size + 3)) (Mx.more (Nat.le_refl _))).ext HE.out)
  have HY := Lib.hid ((k.more (M' := Mx M w.heap.size (w.heap.size + 3)) (Mx.more (Nat.le_refl _))).ext HE.out)
  have HD := Lib.hid hB
  have HL2 : Hid (dlen (nrm r) + dlen ((-1 : Int)).natAbs ≤ 95) := by
    show _ ≤ _
    rw [show dlen ((-1 : Int)).natAbs = 1 by decide]; exact hL2
  clear hE0 hP0 hP1 hB0 hM0 h k hB hL2
  go_enter Try.func31, Try.ntmps31
  go_wp2
  refine wp_region_u (SP2 w.heap.size x y) 9 (by kernel_rfl) HS.out (fun hHeld => ?_)
  ((refine wpAnyU_takeT 0 (oi := ?_) (v := ?_) (by kernel_rfl) (by kernel_rfl) (by kernel_rfl) (by kernel_rfl) (by kernel_rfl) (by first | exact hSn | exact hHeld) ?_ ?_ ?_ ?_ ?_; rotate_left 2; (simp only [List.getElem?_toArray, List.getElem?_cons_succ, List.getElem?_cons_zero]; rfl); rfl; (intro wS hSw; obtain ⟨⟨S1, S2, S3, S4⟩, S5, S6, S7, S8⟩ := hSw; go_simp; try with_reducible rfl); (exact fun _ _ _ h => h); (try simp only [Act.put, List.setIfInBounds_toArray, List.set_cons_zero, List.set_cons_succ])); (refine wpAnyU_takeT 2 (oi := ?_) (v := ?_) (by kernel_rfl) (by kernel_rfl) (by kernel_rfl) (by kernel_rfl) (by kernel_rfl) (by first | exact hSn | exact hHeld) ?_ ?_ ?_ ?_ ?_; rotate_left 2; (simp only [List.getElem?_toArray, List.getElem?_cons_succ, List.getElem?_cons_zero]; rfl); rfl; (intro wS hSw; obtain ⟨⟨S1, S2, S3, S4⟩, S5, S6, S7, S8⟩ := hSw; go_simp; try with_reducible rfl); (exact fun _ _ _ h => h); (try simp only [Act.put, List.setIfInBounds_toArray, List.set_cons_zero, List.set_cons_succ])))
  ((refine wpAnyU_one 1 (o := ?_) (by kernel_rfl) ?_ ?_; rotate_left 1; (simp only [List.getElem?_toArray, List.getElem?_cons_succ, List.getElem?_cons_zero]; rfl); intro K hK); go_simp; (refine (rp_can _ x l _ HM.out HX.out).mono ?_); rintro e_ wz ⟨x1, rfl, hx1, he1⟩; go_wp2_with (fail); (try clear hSn); (have hSn := hHeld.ext he1); (refine hK.out _ _ (fun _ => hSn) ?_); clear hK K; (try simp only [Act.put, List.setIfInBounds_toArray, List.set_cons_zero, List.set_cons_succ]))
  ((refine wpAnyU_one 3 (o := ?_) (by kernel_rfl) ?_ ?_; rotate_left 1; (simp only [List.getElem?_toArray, List.getElem?_cons_succ, List.getElem?_cons_zero]; rfl); intro K hK); go_simp; (refine (rp_can _ y r _ (HM.out.ext he1) (HY.out.ext he1)).mono ?_); rintro e_ wz ⟨y1, rfl, hy1, he2⟩; go_wp2_with (fail); (try clear hSn); (have hSn := hHeld.ext (he1.trans he2)); (refine hK.out _ _ (fun _ => hSn) ?_); clear hK K; (try simp only [Act.put, List.setIfInBounds_toArray, List.set_cons_zero, List.set_cons_succ]))
  have he2' := he1.trans he2
  ((refine wpAnyU_one 4 (o := ?_) (by kernel_rfl) ?_ ?_; rotate_left 1; (simp only [List.getElem?_toArray, List.getElem?_cons_succ, List.getElem?_cons_zero]; rfl); intro K hK); go_simp; (refine (int_of (-1) _ (HM.out.ext he2') (by omega) (by omega)).mono ?_); rintro e_ wz ⟨e0, e1, rfl, hc, he3⟩; go_wp2_with (fail); (try clear hSn); (have hSn := hHeld.ext (he2'.trans he3)); (refine hK.out _ _ (fun _ => hSn) ?_); clear hK K; (try simp only [Act.put, List.setIfInBounds_toArray, List.set_cons_zero, List.set_cons_succ]))
  obtain ⟨b2, a2, n2, p2, rfl, rfl⟩ := hc.form
  have he3' := he2'.trans he3
  ((refine wpAnyU_one 5 (o := ?_) (by kernel_rfl) ?_ ?_; rotate_left 1; (simp only [List.getElem?_toArray, List.getElem?_cons_succ, List.getElem?_cons_zero]; rfl); intro K hK); go_simp; (refine (rp_scale _ 4 y1 r B b2 a2 n2 p2 (-1) _ (HM.out.ext he3') (hy1.ext he3) hc.toV HL2.out HD.out hBC).mono ?_); rintro e_ wz ⟨z1, rfl, hz1, he4⟩; go_wp2_with (fail); (try clear hSn); (have hSn := hHeld.ext (he3'.trans he4)); (refine hK.out _ _ (fun _ => hSn) ?_); clear hK K; (try simp only [Act.put, List.setIfInBounds_toArray, List.set_cons_zero, List.set_cons_succ]))
  rename_i wz
  have he4' := he3'.trans he4
  have hM3 := HM.out.ext he4'
  have hkr := krow2 hM3 ((hx1.ext (he2.trans he3)).ext he4) hz1
  have he5 : Ext _ (wz.alloc (.cells #[.int .i64 x1.lv, .bool x1.b, .slice x1.a x1.n x1.p, .slice x1.ka x1.kn x1.kp, .int .i64 z1.lv, .bool z1.b, .slice z1.a z1.n z1.p, .slice z1.ka z1.kn z1.kp] 31)) := he4'.alloc _
  (refine wpAnyU_one 6 (o := ?_) (by kernel_rfl) ?_ ?_; rotate_left 1; (simp only [List.getElem?_toArray, List.getElem?_cons_succ, List.getElem?_cons_zero]; rfl); intro K hK)
  go_simp
  refine hK.out _ _ (fun _ => hHeld.ext he5) ?_
  clear hK K
  (try simp only [Act.put, List.setIfInBounds_toArray, List.set_cons_zero, List.set_cons_succ])
  ((refine wpAnyU_one 7 (o := ?_) (by kernel_rfl) ?_ ?_; rotate_left 1; (simp only [List.getElem?_toArray, List.getElem?_cons_succ, List.getElem?_cons_zero]; rfl); intro K hK); go_simp; (refine (rp_addx _ 4 _ 2 _ _ (HM.out.ext he5) hkr (by rw [psum_two]; exact hL)).mono ?_); rintro e_ wz ⟨u, rfl, hu, he6⟩; go_wp2_with (fail); (try clear hSn); (have hSn := hHeld.ext (he5.trans he6)); (refine hK.out _ _ (fun _ => hSn) ?_); clear hK K; (try simp only [Act.put, List.setIfInBounds_toArray, List.set_cons_zero, List.set_cons_succ]))
  rw [psum_two] at hu
  ((refine wpAnyU_one 8 (o := ?_) (by kernel_rfl) ?_ ?_; rotate_left 1; (simp only [List.getElem?_toArray, List.getElem?_cons_succ, List.getElem?_cons_zero]; rfl); intro K hK); go_simp; (refine (rp_cpy _ 4 u _ _ (HM.out.ext (he5.trans he6)) hu).mono ?_); rintro e_ wz ⟨v, rfl, hv, he7⟩; go_wp2_with (fail); (try clear hSn); (have hSn := hHeld.ext ((he5.trans he6).trans he7)); (refine hK.out _ _ (fun _ => hSn) ?_); clear hK K; (try simp only [Act.put, List.setIfInBounds_toArray, List.set_cons_zero, List.set_cons_succ]))
  obtain ⟨⟨q0, q1, q2, q3⟩, ⟨f0, f1, f2, f3⟩, ⟨r0, r1, r2, r3⟩, HF⟩ := retX (M := M) (w := w) (HB.out.ext ((he5.trans he6).trans he7)) (Mx.at (by omega)) (by omega) (HE.out.trans ((he5.trans he6).trans he7)) hv Mx.sub
  ((refine wpAnyU_one 9 (o := ?_) (by kernel_rfl) ?_ ?_; rotate_left 1; (simp only [List.getElem?_toArray, List.getElem?_cons_succ, List.getElem?_cons_zero]; rfl); intro K hK); go_simp; (refine hK.out _ _ (fun h => absurd rfl h) ?_); clear hK K; refine wpAnyU_done (by kernel_rfl) ?_ _)
  clear he1 he2 he3 he4 he5 he6 he7 he2' he3' he4' hx1 hy1 hz1 hc hu hv hHeld hkr hM3
  go_wp2
  exact bodyPost_ret (v := .agg (peA v)) (by simp [results, Try.results31, go_sem, r0, r1, r2, r3]) rfl HF.out
end Go.Proofs.Ythhffpimcgmciaa
