/- cylinderref22.build. cylinderref22.Build; the polynomials of the law RecpolyNormal. RecpolyNormal: the region with two calls and two new variables. RecpolyNormal: the callees' contracts at the law's polynomials. -/
import Derived.Test.YtgppogaoilijcaaGreatMi
set_option linter.unusedVariables false
set_option linter.unusedSimpArgs false

namespace Go.Proofs.YtgppogaoilijcaaGreat
open Go.RowKit

def NodesR (M : Nat → Prop) (w : World) (v : Value) (n : Nat) (L C K : Nat → Int) : Prop :=
  n ≤ 1099511627776 ∧ ((n = 0 ∧ ∃ a c, v = .slice a 0 c) ∨ ∃ b off cap, v = .slice (some ⟨b, off, none⟩) n cap ∧ n ≤ cap ∧ cap ≤ maxLen ∧ (b < w.heap.size ∧ ¬ M b) ∧ ∀ i, i < n → w.cell? ⟨b, off + i * 3, none⟩ = some (.int .i8 (L i)) ∧ w.cell? ⟨b, off + i * 3 + 1, none⟩ = some (.int .i16 (C i)) ∧ w.cell? ⟨b, off + i * 3 + 2, none⟩ = some (.int .u8 (K i)) ∧
    (-128 ≤ L i ∧ L i ≤ 127) ∧ (-32768 ≤ C i ∧ C i ≤ 32767) ∧ (0 ≤ K i ∧ K i ≤ 255))
theorem NodesR.kp {M : Nat → Prop} {w w' : World} {v : Value} {n : Nat} {L C K : Nat → Int} (h : NodesR M w v n L C K) (he : Kp M w w') : NodesR M w' v n L C K := by
  obtain ⟨h0, h | ⟨b, off, cap, h1, h2, h3, h4, h5⟩⟩ := h
  · exact ⟨h0, .inl h⟩
  · exact ⟨h0, .inr ⟨b, off, cap, h1, h2, h3, ⟨Nat.lt_of_lt_of_le h4.1 he.1, h4.2⟩, fun i hi => by rw [he.cell h4.1 h4.2, he.cell h4.1 h4.2, he.cell h4.1 h4.2]; exact h5 i hi⟩⟩
theorem NodesR.ext {M : Nat → Prop} {w w' : World} {v : Value} {n : Nat} {L C K : Nat → Int} (h : NodesR M w v n L C K) (he : Ext w w') : NodesR M w' v n L C K := h.kp (Kp.of_ext he)
theorem NodesR.more {M M' : Nat → Prop} {w : World} {v : Value} {n : Nat} {L C K : Nat → Int} (h : NodesR M w v n L C K) (hm : ∀ g, M' g → M g ∨ w.heap.size ≤ g) : NodesR M' w v n L C K := by
  obtain ⟨h0, h | ⟨b, off, cap, h1, h2, h3, h4, h5⟩⟩ := h
  · exact ⟨h0, .inl h⟩
  · exact ⟨h0, .inr ⟨b, off, cap, h1, h2, h3, ⟨h4.1, fun k => (hm b k).elim h4.2 (by omega)⟩, h5⟩⟩
theorem NodesR.form {M : Nat → Prop} {w : World} {v : Value} {n : Nat} {L C K : Nat → Int} (h : NodesR M w v n L C K) : ∃ a cap, v = .slice a n cap := by
  obtain ⟨h0, ⟨rfl, a, c, rfl⟩ | ⟨b, off, cap, rfl, _⟩⟩ := h
  · exact ⟨_, _, rfl⟩
  · exact ⟨_, _, rfl⟩
def nsum (f : Nat → Nat) : Nat → Nat
  | 0 => 0
  | n + 1 => nsum f n + f n
def szE (A : Nat) : (d : Nat) → RT d → Nat
  | 0, _ => 1
  | d + 1, t => if t.1 ≤ 0 then dlen t.2.1.val.natAbs + 1 else if 4 < t.1 then 1 else 1 + nsum (fun i => szE A d (t.2.2.2 i) + A + 1) t.2.2.1
def Sml0 (d : Nat) (t : RT d) : Prop := (terms d t).length ≤ 4 ^ d ∧ nrm (terms d t) ≤ 4 ^ d * 32768 ∧ ∀ s ∈ terms d t, ∀ k, s.2.get k ≤ 3 * (d : Int)
def Sml (d : Nat) (t : RT d) : Prop := Sml0 d t ∧ ∀ A, szE A d t ≤ 9 ^ d * (A + 3)
theorem nsum_le4 (f : Nat → Nat) (c : Nat) : ∀ n, n ≤ 4 → (∀ i, i < n → f i ≤ c) → nsum f n ≤ n * c
  | 0, _, _ => Nat.zero_le _
  | n + 1, h, hf => by
    have h1 := nsum_le4 f c n (by omega) fun i hi => hf i (by omega)
    have h2 := hf n (by omega)
    simp only [nsum, Nat.add_mul, Nat.one_mul]
    omega
theorem Sml.tb {d : Nat} {t : RT d} (h : Sml d t) (hd : d ≤ 7) : TB d t := by
  obtain ⟨⟨h1, h2, h3⟩, _⟩ := h
  have hp : 4 ^ d ≤ 4 ^ 7 := Nat.pow_le_pow_right (by omega) hd
  have hp7 : 4 ^ 7 = 16384 := by decide
  refine ⟨by omega, by omega, ?_, fun s hs k => by have := h3 s hs k; omega⟩
  have h4 : nrm (terms d t) ≤ 536870912 := by
    refine Nat.le_trans h2 ?_
    have := Nat.mul_le_mul_right 32768 hp
    omega
  have h5 : dlen 536870912 = 1 := by
    have h6 : dlen 536870912 ≤ 1 := (dlen_le_iff _ _).2 (by decide)
    have h7 : 0 < dlen 536870912 := dlen_pos (by decide)
    omega
  have := dlen_mono h4
  omega
theorem sml_const (d : Nat) (lv : Int) (r : RawI) (n : Nat) (kid : Nat → RT d) (hl : lv ≤ 0 ∨ 4 < lv) (hv : r.val.natAbs ≤ 32768) : Sml (d + 1) (mkT d lv r n kid) := by
  have hp : 1 ≤ 4 ^ (d + 1) := Nat.one_le_pow _ _ (by omega)
  refine ⟨?_, fun A => ?_⟩
  rotate_left
  · have h9 : 1 ≤ 9 ^ (d + 1) := Nat.one_le_pow _ _ (by omega)
    have h1 : dlen r.val.natAbs ≤ 1 := (dlen_le_iff _ _).2 (by omega)
    have h3 : 3 ≤ 9 ^ (d + 1) * (A + 3) := Nat.le_trans (by omega : 3 ≤ 1 * (A + 3)) (Nat.mul_le_mul_right _ h9)
    show (if lv ≤ 0 then _ else if 4 < lv then _ else _) ≤ _
    show (if lv ≤ 0 then dlen r.val.natAbs + 1 else _) ≤ _
    by_cases h0 : lv ≤ 0
    · rw [if_pos h0]; omega
    · rw [if_neg h0, if_pos (by omega)]; omega
  rcases hl with hl | hl
  · have hT : terms (d + 1) (mkT d lv r n kid) = [(r.val, Mo.zero)] := terms_const hl
    refine ⟨by rw [hT]; exact hp, ?_, fun s hs k => ?_⟩
    · rw [hT, nrm_one]
      have := Nat.mul_le_mul_right 32768 hp
      omega
    · rw [hT] at hs
      simp only [List.mem_singleton] at hs
      subst hs
      show Mo.zero.get k ≤ _
      rw [get_zero]; omega
  · have hT : terms (d + 1) (mkT d lv r n kid) = [] := by
      show (if lv ≤ 0 then _ else if 4 < lv then _ else _) = _
      rw [if_neg (by omega), if_pos hl]
    refine ⟨by rw [hT]; exact Nat.zero_le _, by rw [hT]; exact Nat.zero_le _, fun s hs k => by rw [hT] at hs; cases hs⟩
theorem nrm_poly_le (L n : Nat) (P : Nat → List Tm) (c : Nat) (h : ∀ i, i < n → nrm (P i) ≤ c) : nrm (poly L n P) ≤ n * c := by
  induction n with
  | zero => exact Nat.zero_le _
  | succ n ih =>
    rw [poly_succ, nrm_append, nrm_shift, Nat.add_mul, Nat.one_mul]
    have h1 := ih fun i hi => h i (by omega)
    have h2 := h n (by omega)
    omega
theorem sml_node (d : Nat) (lv : Int) (r : RawI) (n : Nat) (kid : Nat → RT d) (hl : 1 ≤ lv ∧ lv ≤ 4) (hn : n ≤ 4) (hk : ∀ i, i < n → Sml d (kid i)) : Sml (d + 1) (mkT d lv r n kid) := by
  have hT : terms (d + 1) (mkT d lv r n kid) = poly lv.toNat n (fun i => terms d (kid i)) := terms_node hl.1 hl.2
  have e : 4 ^ (d + 1) = 4 * 4 ^ d := by rw [Nat.pow_succ, Nat.mul_comm]
  refine ⟨?_, fun A => ?_⟩
  rotate_left
  · show (if lv ≤ 0 then _ else if 4 < lv then _ else 1 + nsum (fun i => szE A d (kid i) + A + 1) n) ≤ _
    rw [if_neg (by omega), if_neg (by omega)]
    have h1 := nsum_le4 (fun i => szE A d (kid i) + A + 1) (9 ^ d * (A + 3) + A + 1) n hn fun i hi => by have := (hk i hi).2 A; show szE A d (kid i) + A + 1 ≤ _; omega
    have h2 : n * (9 ^ d * (A + 3) + A + 1) ≤ 4 * (9 ^ d * (A + 3) + A + 1) := Nat.mul_le_mul_right _ hn
    have h9 : 1 ≤ 9 ^ d := Nat.one_le_pow _ _ (by omega)
    have h3 : 1 * (A + 3) ≤ 9 ^ d * (A + 3) := Nat.mul_le_mul_right _ h9
    rw [Nat.pow_succ, Nat.mul_right_comm]
    omega
  replace hk := fun i hi => (hk i hi).1
  refine ⟨?_, ?_, fun s hs k => ?_⟩
  · rw [hT, e]
    exact Nat.le_trans (poly_len _ _ _ (4 ^ d) fun i hi => (hk i hi).1) (Nat.mul_le_mul_right _ hn)
  · rw [hT, e, Nat.mul_assoc]
    exact Nat.le_trans (nrm_poly_le _ _ _ (4 ^ d * 32768) fun i hi => (hk i hi).2.1) (Nat.mul_le_mul_right _ hn)
  · rw [hT] at hs
    obtain ⟨i, hi, u, hu, rfl⟩ := poly_mem hs
    have := (hk i hi).2.2 u hu k
    show (Mo.add u.2 (xp lv.toNat (i : Int))).get k ≤ _
    rw [get_add, get_xp _ _ _ (by omega) (by omega)]
    split <;> omega
def BnPost (M : Nat → Prop) (w : World) (D : Nat) (e : Ending) (w' : World) : Prop := ∃ (x : PE) (u : Value) (n' : Nat) (L' C' K' : Nat → Int) (t : RT (D + 1)), e = .returned (.tuple #[.agg (peA x), u]) ∧ RR M w' (D + 1) t (.int .i64 x.lv) (.bool x.b) (.slice x.a x.n x.p) (.slice x.ka x.kn x.kp) ∧ Sml (D + 1) t ∧ NodesR M w' u n' L' C' K' ∧ Ext w w'
def BnCtr (D : Nat) : Prop := ∀ (M : Nat → Prop) (v : Value) (n : Nat) (L C K : Nat → Int) (w : World), Mb M w → NodesR M w v n L C K → Calls Tryz.prog 90 #[v, .int .i64 (D : Int)] w (BnPost M w D)
theorem zero_tree (M : Nat → Prop) (w : World) (D : Nat) : ∃ t : RT (D + 1), RR M w (D + 1) t (.int .i64 PE.z.lv) (.bool PE.z.b) (.slice PE.z.a PE.z.n PE.z.p) (.slice PE.z.ka PE.z.kn PE.z.kp) ∧ Sml (D + 1) t :=
  ⟨mkT D 0 ⟨false, 0, fun _ => 0⟩ 0 (fun _ => dfl D), ⟨rfl, by show -9223372036854775808 ≤ (0 : Int) ∧ (0 : Int) ≤ 9223372036854775807; omega, ⟨rfl, natr_nil _ _ _⟩, Nat.zero_le _, .inl ⟨⟨none, 0, rfl, Nat.zero_le _, fun _ => rfl⟩, rfl⟩⟩, sml_const D 0 _ 0 _ (.inl (Int.le_refl _)) (by decide)⟩
set_option maxRecDepth 100000 in
set_option maxHeartbeats 4000000 in
theorem bn_zero (D : Nat) (M : Nat → Prop) (v : Value) (n : Nat) (L C K : Nat → Int) (w : World) (h : NodesR M w v n L C K) (h0 : n = 0 ∨ D = 0) : Calls Tryz.prog 90 #[v, .int .i64 (D : Int)] w (BnPost M w D) := by
  obtain ⟨a, cap, rfl⟩ := h.form
  have hE : Ext w (w.alloc (.cells zA 34)) := (Ext.refl w).alloc _
  obtain ⟨t, ht1, ht2⟩ := zero_tree M (w.alloc (.cells zA 34)) D
  have HF : Hid (BnPost M w D (.returned (.tuple #[.agg zA, .slice a n cap])) (w.alloc (.cells zA 34))) := ⟨PE.z, _, n, L, C, K, t, rfl, ht1, ht2, h.ext hE, hE⟩
  clear h ht1 ht2 hE
  have hc : ((n : Int) == 0) = true ∨ (((n : Int) == 0) = false ∧ ((D : Int) == 0) = true) := by
    by_cases hn : n = 0
    · exact .inl (by simp [hn])
    · exact .inr ⟨by simp; omega, by simp; omega⟩
  clear h0
  rcases hc with d1 | ⟨d1, d2⟩
  all_goals
    go_enter Tryz.func90, Tryz.ntmps90
    go_wp2
    exact bodyPost_ret (v := .tuple #[.agg zA, .slice a n cap]) (by simp [results, Tryz.results90, go_sem]) rfl HF.out
def SNode (g : Nat) (L C : Int) (w : World) : Prop := w.cell? ⟨g, 0, none⟩ = some (.int .i8 L) ∧ w.cell? ⟨g, 1, none⟩ = some (.int .i16 C)
theorem SNode.ext {g : Nat} {L C : Int} {w w' : World} (h : SNode g L C w) (he : Ext w w') : SNode g L C w' := by
  have hb := World.block_lt_of_cell? _ _ h.1
  exact ⟨by rw [he.cell hb]; exact h.1, by rw [he.cell hb]; exact h.2⟩
def BnS (M : Nat → Prop) (W : World) (lv C0 : Int) (s8 : Value) (wx : World) : Prop := ∃ g8 b2 a2 n2 p2, s8 = .pointer (some ⟨g8, 0, none⟩) ∧ W.heap.size ≤ g8 ∧ Blk wx g8 34 4 (arr #[.int .i64 lv, .bool b2, .slice a2 n2 p2, .slice none 0 0]) ∧ IntC (fun q => M q ∨ q = g8) wx (.bool b2) (.slice a2 n2 p2) C0 ∧ Ext W wx
def MQ (M : Nat → Prop) (w : World) (g8 : Nat) (cv : Value) : Nat → Prop := fun q => Mx M w.heap.size (w.heap.size + 2) q ∨ q = g8 ∨ cv.ownBlock = some q
def BnI (M : Nat → Prop) (w : World) (g8 B0 D : Nat) (lv C0 K0 L0 : Int) (b2 : Bool) (a2 : Option Addr) (n2 p2 k : Nat) (cv rv : Value) (wr : World) : Prop :=
  ∃ (xx : Nat → PE) (ts : Nat → RT (D + 1)) (n' : Nat) (L' C' K' : Nat → Int), Blk wr g8 34 4 (arr #[.int .i64 lv, .bool b2, .slice a2 n2 p2, cv]) ∧ Own wr B0 34 4 cv k (px xx) ∧
    (∀ i, i < k → RR (MQ M w g8 cv) wr (D + 1) (ts i) (.int .i64 (xx i).lv) (.bool (xx i).b) (.slice (xx i).a (xx i).n (xx i).p) (.slice (xx i).ka (xx i).kn (xx i).kp) ∧ Sml (D + 1) (ts i)) ∧ IntC (MQ M w g8 cv) wr (.bool b2) (.slice a2 n2 p2) C0 ∧ NodesR (MQ M w g8 cv) wr rv n' L' C' K' ∧
    Blk wr w.heap.size 34 4 (arr zA) ∧ Blk wr (w.heap.size + 1) 152 3 (arr #[.int .i8 L0, .int .i16 C0, .int .u8 K0]) ∧ Ext w wr ∧ B0 ≤ wr.heap.size
set_option maxRecDepth 100000 in
set_option maxHeartbeats 8000000 in
theorem bn_walk (D : Nat) (ih : BnCtr D) (M : Nat → Prop) (v : Value) (n : Nat) (L C K : Nat → Int) (w : World) (hM : Mb M w) (h : NodesR M w v n L C K) (hn : n ≠ 0) (hD : D ≤ 100) : Calls Tryz.prog 90 #[v, .int .i64 ((D : Int) + 1)] w (BnPost M w (D + 1)) := by
  obtain ⟨i0, hi, hz0, hz1, hz2⟩ := info_parts Tryz.info34
  obtain ⟨hnL, ⟨h0, _⟩ | ⟨b, off, cap, rfl, hnc, hcm, ⟨hb, hMb⟩, hcells⟩⟩ := h
  · exact absurd h0 hn
  obtain ⟨x0, x1, x2, ⟨hL1, hL2⟩, ⟨hC1, hC2⟩, hK1, hK2⟩ := hcells 0 (by omega)
  rw [Nat.zero_mul, Nat.add_zero] at x0 x1 x2
  obtain ⟨n1, rfl⟩ : ∃ n1, n = n1 + 1 := ⟨n - 1, by omega⟩
  have HC := Lib.hid hcells
  have HIH := Lib.hid ih
  clear hcells ih hn
  generalize L 0 = L0 at *
  generalize C 0 = C0 at *
  generalize K 0 = K0 at *
  have d1 : ((n1 : Int) + 1 == 0) = false := by simp; omega
  have d2 : ((D : Int) + 1 == 0) = false := by simp; omega
  have hNR : ∀ (o c1 : Nat), (n1 = 0 ∨ o = off + 3) → n1 ≤ c1 → c1 ≤ maxLen → NodesR M w (.slice (some ⟨b, o, none⟩) n1 c1) n1 (fun i => L (i + 1)) (fun i => C (i + 1)) (fun i => K (i + 1)) := fun o c1 ho h1 h2 => by
    refine ⟨by omega, .inr ⟨b, o, c1, rfl, h1, h2, ⟨hb, hMb⟩, fun i hi => ?_⟩⟩
    have e : o = off + 3 := ho.resolve_left (by omega)
    have := HC.out (i + 1) (by omega)
    rw [show off + (i + 1) * 3 = o + i * 3 by omega] at this
    exact this
  have HNR := Lib.hid hNR
  clear hNR
  have hE0 : Ext w (w.alloc (.cells zA 34)) := (Ext.refl w).alloc _
  have hEW : Ext w ((w.alloc (.cells zA 34)).alloc (.cells #[.int .i8 L0, .int .i16 C0, .int .u8 K0] 152)) := hE0.alloc _
  have hBR := (Blk.of_arr w zA 34 4 rfl).alloc (.cells #[.int .i8 L0, .int .i16 C0, .int .u8 K0] 152)
  have hBN := Blk.of_arr (w.alloc (.cells zA 34)) #[.int .i8 L0, .int .i16 C0, .int .u8 K0] 152 3 rfl
  simp only [World.size_alloc] at hBN
  have HEW := Lib.hid hEW
  have HBR := Lib.hid hBR
  have HBN := Lib.hid hBN
  have hMW : Mb (Mx M w.heap.size (w.heap.size + 2)) ((w.alloc (.cells zA 34)).alloc (.cells #[.int .i8 L0, .int .i16 C0, .int .u8 K0] 152)) := Mx.mb hM (by simp; omega) (by simp)
  have HMW := Lib.hid hMW
  have HSN : Hid (SNode (w.heap.size + 1) L0 C0 ((w.alloc (.cells zA 34)).alloc (.cells #[.int .i8 L0, .int .i16 C0, .int .u8 K0] 152)).drew) := SNode.ext ⟨hBN.cell (i := 0) (by omega), hBN.cell (i := 1) (by omega)⟩ (Ext.refl _).drew
  have ht1 : -6 ≤ Int.tmod L0 7 ∧ Int.tmod L0 7 ≤ 6 := by
    have h1 := Int.tmod_lt_of_pos L0 (show (0 : Int) < 7 by omega)
    have h2 : -7 < Int.tmod L0 7 := by
      have := Int.tmod_lt_of_pos (-L0) (show (0 : Int) < 7 by omega)
      rw [Int.neg_tmod] at this
      omega
    omega
  obtain ⟨ht2, ht3⟩ := ht1
  have hcap : cap = 1 ∨ cap ≠ 1 := by omega
  clear hE0 hEW hBR hBN hMW
  rcases hcap with hcap | hcap
  · obtain rfl : n1 = 0 := by omega
    subst hcap
    have hw1 : IntKind.i64.wrap (L0.tmod 7) = L0.tmod 7 := IntWalk.i64_in _ (by omega)
    have hw2 : IntKind.i64.wrap C0 = C0 := IntWalk.i64_in _ (by omega)
    go_enter Tryz.func90, Tryz.ntmps90
    go_wp2
    go_cut [8] (BnS (Mx M w.heap.size (w.heap.size + 2)) ((w.alloc (.cells zA 34)).alloc (.cells #[.int .i8 L0, .int .i16 C0, .int .u8 K0] 152)) (L0.tmod 7) C0)
    case first =>
      refine wp_region_u (SNode (w.heap.size + 1) L0 C0) 10 (by kernel_rfl) HSN.out (fun hHeld => ?_)
      (refine tkB [0, 1, 2, 3, 4, 5, 6] ?_; (iterate 7 (refine tk1 (oi := ?_) (v := ?_) (by kernel_rfl) (by first | exact hSn | exact hHeld) ?_ ?_ ?_ ?_ ?_; rotate_left 2; (simp only [List.getElem?_toArray, List.getElem?_cons_succ, List.getElem?_cons_zero]; rfl); rfl; (intro wS hSw; obtain ⟨S1, S2⟩ := hSw; go_simp; try with_reducible rfl); (exact fun _ _ _ h => h); (try simp only [Act.put, List.setIfInBounds_toArray, List.set_cons_zero, List.set_cons_succ]))); refine tkE ?_)
      (refine wpAnyU_two 7 9 (oi := ?_) (oj := ?_) (by kernel_rfl) ?_ ?_ ?_ ?_; rotate_left 2; (simp only [List.getElem?_toArray, List.getElem?_cons_succ, List.getElem?_cons_zero]; rfl); (simp only [List.getElem?_toArray, List.getElem?_cons_succ, List.getElem?_cons_zero]; rfl); all_goals intro K hK)
      · go_simp
        refine (int_of (M := Mx M w.heap.size (w.heap.size + 2)) C0 _ (HMW.out.ext (Ext.refl _).drew) (by omega) (by omega)).mono ?_
        rintro e w1 ⟨d0, d1, rfl, hc, he1⟩
        obtain ⟨b2, a2, n2, p2, rfl, rfl⟩ := hc.form
        go_wp2_with (fail)
        have hSn := hHeld.ext he1
        refine hK.out _ _ (fun _ => hSn) ?_
        clear hK K
        (try simp only [Act.put, List.setIfInBounds_toArray, List.set_cons_zero, List.set_cons_succ])
        (refine tkB [8] ?_; (iterate 1 (refine tk1 (oi := ?_) (v := ?_) (by kernel_rfl) (by first | exact hSn | exact hHeld) ?_ ?_ ?_ ?_ ?_; rotate_left 2; (simp only [List.getElem?_toArray, List.getElem?_cons_succ, List.getElem?_cons_zero]; rfl); rfl; (intro wS hSw; obtain ⟨S1, S2⟩ := hSw; go_simp; try with_reducible rfl); (exact fun _ _ _ h => h); (try simp only [Act.put, List.setIfInBounds_toArray, List.set_cons_zero, List.set_cons_succ]))); refine tkE ?_)
        (refine wpAnyU_one 9 (o := ?_) (by kernel_rfl) ?_ ?_; rotate_left 1; (simp only [List.getElem?_toArray, List.getElem?_cons_succ, List.getElem?_cons_zero]; rfl); intro K hK)
        go_simp
        have hSn2 := hHeld.ext (he1.alloc (.cells zA 34))
        refine hK.out _ _ (fun _ => hSn2) ?_
        clear hK K
        (try simp only [Act.put, List.setIfInBounds_toArray, List.set_cons_zero, List.set_cons_succ])
        ((refine wpAnyU_one 10 (o := ?_) (by kernel_rfl) ?_ ?_; rotate_left 1; (simp only [List.getElem?_toArray, List.getElem?_cons_succ, List.getElem?_cons_zero]; rfl); intro K hK); go_simp; (refine hK.out _ _ (fun h => absurd rfl h) ?_); clear hK K; refine wpAnyU_done (by kernel_rfl) ?_ _)
        go_wp2_with (fail)
        go_meet
        refine ⟨w1.heap.size, b2, a2, n2, p2, rfl, ?_, Blk.of_arr w1 #[.int .i64 (L0.tmod 7), .bool b2, .slice a2 n2 p2, .slice none 0 0] 34 4 rfl, ?_, ?_⟩
        · exact (((Ext.refl _).drew).trans he1).size
        · exact (hc.more (fun q hq => hq.imp id (fun e => by omega))).ext ((Ext.refl w1).alloc _)
        · exact (((Ext.refl _).drew).trans he1).alloc _
      · go_simp
        have hE9 : Ext ((w.alloc (.cells zA 34)).alloc (.cells #[.int .i8 L0, .int .i16 C0, .int .u8 K0] 152)).drew (((w.alloc (.cells zA 34)).alloc (.cells #[.int .i8 L0, .int .i16 C0, .int .u8 K0] 152)).drew.alloc (.cells zA 34)) := (Ext.refl _).alloc _
        have hB9 := Blk.of_arr ((w.alloc (.cells zA 34)).alloc (.cells #[.int .i8 L0, .int .i16 C0, .int .u8 K0] 152)).drew zA 34 4 rfl
        have hs9 : ((w.alloc (.cells zA 34)).alloc (.cells #[.int .i8 L0, .int .i16 C0, .int .u8 K0] 152)).drew.heap.size = w.heap.size + 1 + 1 := by show ((w.alloc (.cells zA 34)).alloc (.cells #[.int .i8 L0, .int .i16 C0, .int .u8 K0] 152)).heap.size = _; simp
        rw [hs9] at hB9
        have hSn := hHeld.ext hE9
        refine hK.out _ _ (fun _ => hSn) ?_
        clear hK K
        (try simp only [Act.put, List.setIfInBounds_toArray, List.set_cons_zero, List.set_cons_succ])
        (refine wpAnyU_one 7 (o := ?_) (by kernel_rfl) ?_ ?_; rotate_left 1; (simp only [List.getElem?_toArray, List.getElem?_cons_succ, List.getElem?_cons_zero]; rfl); intro K hK)
        go_simp
        refine (int_of (M := fun q => Mx M w.heap.size (w.heap.size + 2) q ∨ q = w.heap.size + 1 + 1) C0 _ ?_ (by omega) (by omega)).mono ?_
        · rintro q (hq | rfl)
          · exact ((HMW.out.ext (Ext.refl _).drew).ext hE9) q hq
          · exact hB9.lt
        rintro e w1 ⟨d0, d1, rfl, hc, he1⟩
        obtain ⟨b2, a2, n2, p2, rfl, rfl⟩ := hc.form
        go_wp2_with (fail)
        clear hSn
        have hSn := hHeld.ext (hE9.trans he1)
        refine hK.out _ _ (fun _ => hSn) ?_
        clear hK K
        (try simp only [Act.put, List.setIfInBounds_toArray, List.set_cons_zero, List.set_cons_succ])
        (refine tkB [8] ?_; (iterate 1 (refine tk1 (oi := ?_) (v := ?_) (by kernel_rfl) (by first | exact hSn | exact hHeld) ?_ ?_ ?_ ?_ ?_; rotate_left 2; (simp only [List.getElem?_toArray, List.getElem?_cons_succ, List.getElem?_cons_zero]; rfl); rfl; (intro wS hSw; obtain ⟨S1, S2⟩ := hSw; go_simp; try with_reducible rfl); (exact fun _ _ _ h => h); (try simp only [Act.put, List.setIfInBounds_toArray, List.set_cons_zero, List.set_cons_succ]))); refine tkE ?_)
        have hB1 := hB9.ext he1
        have q0 := hB1.cell (i := 0) (by omega)
        have q1 := hB1.cell (i := 1) (by omega)
        have q2 := hB1.cell (i := 2) (by omega)
        have q3 := hB1.cell (i := 3) (by omega)
        have f0 := hB1.frozen 0
        have f1 := hB1.frozen 1
        have f2 := hB1.frozen 2
        have f3 := hB1.frozen 3
        simp only [arr] at q0 q1 q2 q3
        ((refine wpAnyU_one 10 (o := ?_) (by kernel_rfl) ?_ ?_; rotate_left 1; (simp only [List.getElem?_toArray, List.getElem?_cons_succ, List.getElem?_cons_zero]; rfl); intro K hK); go_simp; (refine hK.out _ _ (fun h => absurd rfl h) ?_); clear hK K; refine wpAnyU_done (by kernel_rfl) ?_ _)
        go_wp2_with (fail)
        go_meet
        have hkp : Kp (fun q => Mx M w.heap.size (w.heap.size + 2) q ∨ q = w.heap.size + 1 + 1) w1 (set4 w1 (w.heap.size + 1 + 1) 0 (.int .i64 (L0.tmod 7)) (.bool b2) (.slice a2 n2 p2) (.slice none 0 0)) := Kp.set4 (.inr rfl) _ _ _ _ _
        refine ⟨w.heap.size + 1 + 1, b2, a2, n2, p2, rfl, by simp, (hB1.set4 0 (.int .i64 (L0.tmod 7)) (.bool b2) (.slice a2 n2 p2) (.slice none 0 0)).congr (fun i hi => ?_), hc.kp hkp, ?_⟩
        · match i, hi with
          | 0, _ => rfl
          | 1, _ => rfl
          | 2, _ => rfl
          | 3, _ => rfl
        · exact Ext.set4 ((((Ext.refl _).drew).trans hE9).trans he1) (by simp) _ _ _ _ _
    case rest =>
      obtain ⟨g8, b2, a2, n2, p2, rfl, hg8, hB8, hI8, hE8⟩ := hcut
      obtain ⟨kq, hkq, hkq4⟩ : ∃ kq : Nat, K0.tmod 5 = kq ∧ kq ≤ 4 := ⟨(K0 % 5).toNat, by rw [Int.tmod_eq_emod_of_nonneg hK1]; omega, by omega⟩
      have hg8' : w.heap.size + 2 ≤ g8 := by simpa using hg8
      have hBR1 := HBR.out.ext hE8
      have hBN1 := HBN.out.ext hE8
      have HE8 := Lib.hid (HEW.out.trans hE8)
      have hgl := hB8.lt
      have HST : Hid (BnI M w g8 wc.heap.size D (L0.tmod 7) C0 K0 L0 b2 a2 n2 p2 0 (.slice none 0 0) (.slice (some ⟨b, off, none⟩) 0 0) wc) := by
        refine ⟨fun _ => PE.z, fun _ => dfl (D + 1), 0, _, _, _, hB8, Own.nil _ _ _ _ _, fun i hi => by omega, hI8.more (fun q hq => ?_), (((HNR.out off 0 (by simp) (by omega) (by omega)).more (M' := MQ M w g8 (.slice none 0 0)) (fun q hq => ?_)).ext HE8.out), hBR1, hBN1, HE8.out, Nat.le_refl _⟩
        · rcases hq with hq | rfl | hq
          · exact .inl (.inl hq)
          · exact .inl (.inr rfl)
          · cases hq
        · rcases hq with hq | rfl | hq
          · exact Mx.more (Nat.le_refl _) q hq
          · exact .inr (by omega)
          · cases hq
      clear hB8 hI8 hE8 hBR1 hBN1 hg8 HBR HBN HMW HSN hw1 hw2 x0 x1 x2
      have HKQ := Lib.hid hkq
      clear hkq
      go_wp2
      go_loopw [9, 7] (fun i rv wr => ∃ (k : Nat) (cv : Value), k ≤ kq ∧ i = .int .i64 k ∧ Hid (BnI M w g8 wc.heap.size D (L0.tmod 7) C0 K0 L0 b2 a2 n2 p2 k cv rv wr)) (fun i _ _ => kq - (intOf i).toNat)
      case atStart => exact ⟨0, _, Nat.zero_le _, rfl, HST⟩
      case round =>
        clear HST
        obtain ⟨k, cv, hk, rfl, HST⟩ := hrel
        obtain ⟨xx, ts, n', L', C', K', hB8, hO, hRR, hI8, hNR, hBR, hBN, hEr, hBsz⟩ := HST.out
        obtain ⟨ra, rc, rfl⟩ := hNR.form
        obtain ⟨va, vc, rfl⟩ := hO.form
        have y2 := hBN.cell (i := 2) (by omega)
        simp only [arr] at y2
        have hnl := hBN.lt
        have hk5 : (K0.tmod 5) = (kq : Int) := HKQ.out
        by_cases hlt : k < kq
        · have HMQ : Hid (Mb (MQ M w g8 (.slice va k vc)) wr) := by
            rintro q (hq | rfl | hq)
            · exact Mx.mb hM hEr.size (by omega) q hq
            · exact hB8.lt
            · exact (hO.lt q hq).2
          have CTR := Lib.hid (HIH.out _ _ _ _ _ _ _ HMQ.out hNR)
          clear hB8 hO hRR hI8 hNR hBR hBN hEr
          go_wp2_with (fail)
          refine (CTR.out).mono ?_
          rintro e w4 ⟨x, u, n3, L3, C3, K3, t, rfl, hRt, hSt, hN3, he4⟩
          obtain ⟨ua, uc, rfl⟩ := hN3.form
          obtain ⟨xx, ts, _, _, _, _, hB8, hO, hRR, hI8, _, hBR, hBN, hEr, _⟩ := HST.out
          have HOL : Hid (∀ q, (Value.slice va k vc).ownBlock = some q → wc.heap.size ≤ q ∧ q < wr.heap.size) := fun q hq => hO.lt q hq
          have hE5 : Ext wr ((w4.alloc (.cells (peA x) 34)).alloc (.cells (peA x) 34)) := (he4.alloc _).alloc _
          have hE45 : Ext w4 ((w4.alloc (.cells (peA x) 34)).alloc (.cells (peA x) 34)) := ((Ext.refl w4).alloc _).alloc _
          have hB4 := hB8.ext he4
          have z3 := hB4.cell (i := 3) (by omega)
          simp only [arr] at z3
          have hg4 := hB4.lt
          have hO5 := hO.ext hE5
          have hB5 := Blk.of_arr (w4.alloc (.cells (peA x) 34)) (peA x) 34 4 rfl
          simp only [World.size_alloc] at hB5
          have HONE := Lib.hid (pe_one x)
          have HB85 := Lib.hid (hB8.ext hE5)
          have HRR5 : Hid (∀ i, i < k → RR (MQ M w g8 (.slice va k vc)) ((w4.alloc (.cells (peA x) 34)).alloc (.cells (peA x) 34)) (D + 1) (ts i) (.int .i64 (xx i).lv) (.bool (xx i).b) (.slice (xx i).a (xx i).n (xx i).p) (.slice (xx i).ka (xx i).kn (xx i).kp) ∧ Sml (D + 1) (ts i)) := fun i hi => ⟨RR.ext (hRR i hi).1 hE5, (hRR i hi).2⟩
          have HI5 := Lib.hid (hI8.ext hE5)
          have HN5 := Lib.hid (hN3.ext hE45)
          have HRT5 := Lib.hid (RR.ext hRt hE45)
          have HBR5 := Lib.hid (hBR.ext hE5)
          have HBN5 := Lib.hid (hBN.ext hE5)
          have HEr5 := Lib.hid (hEr.trans hE5)
          have HSZ : Hid (wr.heap.size ≤ w4.heap.size) := he4.size
          have hszw := hEr.size
          have HSZC : Hid (wc.heap.size ≤ w4.heap.size) := Nat.le_trans hBsz he4.size
          clear hB8 hO hRR hI8 hBR hBN hEr hRt hN3 he4 hE5 hE45 hB4 hk5 y2
          go_wp2_with (at_builtin; refine wpList_append_fn _ rfl (.tmp 51) (.tmp 53) _ rfl wc.heap.size 34 i0 _ 4 64 Tryz.underlying32 hi hz0 hz1 hz2 rfl (by omega) (.slice va k vc) k (px xx) rfl hO5 (w4.heap.size + 1) 34 1 (arr (peA x)) rfl hB5 HONE.out ?p1 ?p2 ?p3 ?_)
          case p1 => unfold maxLen; omega
          case p2 => omega
          case p3 => have := HSZC.out; simp; omega
          intro gg cap2 w6 hO6 hg6 hat hlt6
          have hne8 : ∀ q, (Value.slice va k vc).ownBlock = some q → q ≠ g8 := fun q hq => by have := (HOL.out q hq).1; omega
          have hB86 := HB85.out.grown hg6 (fun e => hne8 g8 e.symm rfl)
          have z6 := hB86.cell (i := 3) (by omega)
          simp only [arr] at z6
          have zf := hB86.frozen 3
          have hg6l := hB86.lt
          have HF : Hid (BnI M w g8 wc.heap.size D (L0.tmod 7) C0 K0 L0 b2 a2 n2 p2 (k + 1) (.slice (some ⟨gg, 0, none⟩) (k + 1) cap2) (.slice ua n3 uc) (w6.setCell ⟨g8, 3, none⟩ (.slice (some ⟨gg, 0, none⟩) (k + 1) cap2))) := by
            have hgg := hO6.lt gg rfl
            have hmore : ∀ q, (MQ M w g8 (.slice va k vc) q ∨ q = gg) → MQ M w g8 (.slice va k vc) q ∨ ((w4.alloc (.cells (peA x) 34)).alloc (.cells (peA x) 34)).heap.size ≤ q := by
              rintro q (hq | rfl)
              · exact .inl hq
              · rcases hat with h1 | h1
                · exact .inl (.inr (.inr h1))
                · exact .inr (by simp; omega)
            have hkp : Kp (fun q => MQ M w g8 (.slice va k vc) q ∨ q = gg) ((w4.alloc (.cells (peA x) 34)).alloc (.cells (peA x) 34)) (w6.setCell ⟨g8, 3, none⟩ (.slice (some ⟨gg, 0, none⟩) (k + 1) cap2)) := (Kp.grown hg6 fun q hq => .inl (.inr (.inr hq))).trans (Kp.set _ _ (p := ⟨g8, 3, none⟩) (.inl (.inr (.inl rfl))) _)
            have hless : ∀ q, MQ M w g8 (.slice (some ⟨gg, 0, none⟩) (k + 1) cap2) q → (MQ M w g8 (.slice va k vc) q ∨ q = gg) ∨ (w6.setCell ⟨g8, 3, none⟩ (.slice (some ⟨gg, 0, none⟩) (k + 1) cap2)).heap.size ≤ q := by
              rintro q (hq | rfl | hq)
              · exact .inl (.inl (.inl hq))
              · exact .inl (.inl (.inr (.inl rfl)))
              · cases hq; exact .inl (.inr rfl)
            have hoth : ∀ q, q < w.heap.size + 2 → (w6.setCell ⟨g8, 3, none⟩ (.slice (some ⟨gg, 0, none⟩) (k + 1) cap2)).heap[q]? = ((w4.alloc (.cells (peA x) 34)).alloc (.cells (peA x) 34)).heap[q]? := fun q hq => by
              have h1 : q < ((w4.alloc (.cells (peA x) 34)).alloc (.cells (peA x) 34)).heap.size := by have := HSZC.out; simp; omega
              rw [Below.heap_setCell _ _ _ _ (show q ≠ g8 by omega), hg6.block q h1 (fun e => by have := (HOL.out q e.symm).1; omega)]
            refine ⟨snoc xx k x, snoc ts k t, n3, L3, C3, K3, (hB86.set 3 _).congr (fun i hi => ?_), (hO6.congr fun j' hj' => px_app xx k x j' hj').of_heap (fun q hq => ?_), fun i hi => ?_, ((HI5.out.more hmore).kp hkp).more hless, ((HN5.out.more hmore).kp hkp).more hless, HBR5.out.of_heap (hoth _ (by omega)), HBN5.out.of_heap (hoth _ (by omega)), ?_, ?_⟩
            · match i, hi with
              | 0, _ => rfl
              | 1, _ => rfl
              | 2, _ => rfl
              | 3, _ => rfl
            · cases hq
              exact Below.heap_setCell _ _ _ _ (show gg ≠ g8 by omega)
            · by_cases hik : i = k
              · subst hik
                rw [snoc_at, snoc_at]
                exact ⟨RR.more hless (RR.kp hkp (RR.more hmore HRT5.out)), hSt⟩
              · rw [snoc_lt _ _ _ _ (by omega), snoc_lt _ _ _ _ (by omega)]
                obtain ⟨h1, h2⟩ := HRR5.out i (by omega)
                exact ⟨RR.more hless (RR.kp hkp (RR.more hmore h1)), h2⟩
            · exact ((HEr5.out).grown hg6 (fun q hq => by have := (HOL.out q hq).1; omega)).set (p := ⟨g8, 3, none⟩) (by show w.heap.size ≤ g8; omega) _
            · have h1 := hg6.size
              have h2 := HSZC.out
              simp only [World.size_alloc] at h1
              simp [World.setCell]; omega
          clear hO6 hg6 hat hO5 hB5 hB86
          go_wp2
          go_roundw
          case rel => exact ⟨k + 1, _, by omega, by go_num, HF⟩
          case measure => simp [intOf]; omega
        · have hkk : k = kq := by omega
          subst hkk
          have w0 := hB8.cell (i := 0) (by omega)
          have w1 := hB8.cell (i := 1) (by omega)
          have w2 := hB8.cell (i := 2) (by omega)
          have w3 := hB8.cell (i := 3) (by omega)
          simp only [arr] at w0 w1 w2 w3
          have hgw := hB8.lt
          have hr0 := hBR.cell (i := 0) (by omega)
          have hr1 := hBR.cell (i := 1) (by omega)
          have hr2 := hBR.cell (i := 2) (by omega)
          have hr3 := hBR.cell (i := 3) (by omega)
          simp only [arr] at hr0 hr1 hr2 hr3
          have hf0 := hBR.frozen 0
          have hf1 := hBR.frozen 1
          have hf2 := hBR.frozen 2
          have hf3 := hBR.frozen 3
          obtain ⟨⟨_, _, _, _⟩, _, ⟨r0, r1, r2, r3⟩, hkp, hEf⟩ := fin4 (M' := MQ M w g8 (.slice va k vc)) (w := w) (.int .i64 (L0.tmod 7)) (.bool b2) (.slice a2 n2 p2) (.slice va k vc) hBR (.inl (Mx.at (by omega))) (Nat.le_refl _) hEr
          have HF : Hid (BnPost M w (D + 1) (.returned (.tuple #[.agg #[.int .i64 (L0.tmod 7), .bool b2, .slice a2 n2 p2, .slice va k vc], .slice ra n' rc])) (set4 wr w.heap.size 0 (.int .i64 (L0.tmod 7)) (.bool b2) (.slice a2 n2 p2) (.slice va k vc))) := by
            obtain ⟨rw_, hr, hv, hc⟩ := (hI8.kp hkp).raw
            have hsub : ∀ q, M q → MQ M w g8 (.slice va k vc) q ∨ (set4 wr w.heap.size 0 (.int .i64 (L0.tmod 7)) (.bool b2) (.slice a2 n2 p2) (.slice va k vc)).heap.size ≤ q := fun q hq => .inl (.inl (.inl hq))
            refine ⟨⟨L0.tmod 7, b2, a2, n2, p2, va, k, vc⟩, _, n', L', C', K', mkT (D + 1) (L0.tmod 7) rw_ k ts, rfl, ⟨rfl, by show -9223372036854775808 ≤ L0.tmod 7 ∧ L0.tmod 7 ≤ 9223372036854775807; omega, hr.more hsub, by show k ≤ _; omega, ?_⟩, ?_, (hNR.kp hkp).more hsub, hEf⟩
            · rcases hO with ⟨h1, h2⟩ | ⟨g, cp, F, h1, hg, hB, hc2, hm2, hF⟩
              · exact .inl ⟨⟨none, 0, h1, Nat.zero_le _, fun _ => rfl⟩, h2⟩
              · refine .inr ⟨g, 0, cp, h1, hc2, hm2, ⟨?_, ?_⟩, fun i hi => ?_⟩
                · rw [size_set4]; exact hB.lt
                · intro hm
                  have := hM g hm
                  omega
                · have hBs := hB.of_heap (heap_set4 wr w.heap.size 0 (.int .i64 (L0.tmod 7)) (.bool b2) (.slice a2 n2 p2) (.slice va k vc) g (by omega))
                  have hi' : i < k := hi
                  refine ⟨_, _, _, _, ?_, ?_, ?_, ?_, RR.more hsub (RR.kp hkp (hRR i hi').1)⟩
                  · rw [Nat.zero_add, hBs.cell (by omega), hF _ (by omega), px0]
                  · rw [Nat.zero_add, hBs.cell (by omega), hF _ (by omega), px1]
                  · rw [Nat.zero_add, hBs.cell (by omega), hF _ (by omega), px2]
                  · rw [Nat.zero_add, hBs.cell (by omega), hF _ (by omega), px3]
            · by_cases hlv : 1 ≤ L0.tmod 7 ∧ L0.tmod 7 ≤ 4
              · exact sml_node (D + 1) _ _ _ _ hlv hkq4 fun i hi => (hRR i hi).2
              · exact sml_const (D + 1) _ _ _ _ (by omega) (by rw [hv]; omega)
          unfold set4 at r0 r1 r2 r3
          have R0 := Lib.hid r0
          have R1 := Lib.hid r1
          have R2 := Lib.hid r2
          have R3 := Lib.hid r3
          have hws : w.heap.size < wr.heap.size := hBR.lt
          clear hO hRR hI8 hNR hB8 hBR hBN hEr hkp hEf r0 r1 r2 r3
          go_wp2
          exact bodyPost_ret (v := .tuple #[.agg #[.int .i64 (L0.tmod 7), .bool b2, .slice a2 n2 p2, .slice va k vc], .slice ra n' rc]) (by simp [results, Tryz.results90, go_sem, R0.out, R1.out, R2.out, R3.out]) rfl HF.out
  · have hw1 : IntKind.i64.wrap (L0.tmod 7) = L0.tmod 7 := IntWalk.i64_in _ (by omega)
    have hw2 : IntKind.i64.wrap C0 = C0 := IntWalk.i64_in _ (by omega)
    go_enter Tryz.func90, Tryz.ntmps90
    go_wp2
    go_cut [8] (BnS (Mx M w.heap.size (w.heap.size + 2)) ((w.alloc (.cells zA 34)).alloc (.cells #[.int .i8 L0, .int .i16 C0, .int .u8 K0] 152)) (L0.tmod 7) C0)
    case first =>
      refine wp_region_u (SNode (w.heap.size + 1) L0 C0) 10 (by kernel_rfl) HSN.out (fun hHeld => ?_)
      (refine tkB [0, 1, 2, 3, 4, 5, 6] ?_; (iterate 7 (refine tk1 (oi := ?_) (v := ?_) (by kernel_rfl) (by first | exact hSn | exact hHeld) ?_ ?_ ?_ ?_ ?_; rotate_left 2; (simp only [List.getElem?_toArray, List.getElem?_cons_succ, List.getElem?_cons_zero]; rfl); rfl; (intro wS hSw; obtain ⟨S1, S2⟩ := hSw; go_simp; try with_reducible rfl); (exact fun _ _ _ h => h); (try simp only [Act.put, List.setIfInBounds_toArray, List.set_cons_zero, List.set_cons_succ]))); refine tkE ?_)
      (refine wpAnyU_two 7 9 (oi := ?_) (oj := ?_) (by kernel_rfl) ?_ ?_ ?_ ?_; rotate_left 2; (simp only [List.getElem?_toArray, List.getElem?_cons_succ, List.getElem?_cons_zero]; rfl); (simp only [List.getElem?_toArray, List.getElem?_cons_succ, List.getElem?_cons_zero]; rfl); all_goals intro K hK)
      · go_simp
        refine (int_of (M := Mx M w.heap.size (w.heap.size + 2)) C0 _ (HMW.out.ext (Ext.refl _).drew) (by omega) (by omega)).mono ?_
        rintro e w1 ⟨d0, d1, rfl, hc, he1⟩
        obtain ⟨b2, a2, n2, p2, rfl, rfl⟩ := hc.form
        go_wp2_with (fail)
        have hSn := hHeld.ext he1
        refine hK.out _ _ (fun _ => hSn) ?_
        clear hK K
        (try simp only [Act.put, List.setIfInBounds_toArray, List.set_cons_zero, List.set_cons_succ])
        (refine tkB [8] ?_; (iterate 1 (refine tk1 (oi := ?_) (v := ?_) (by kernel_rfl) (by first | exact hSn | exact hHeld) ?_ ?_ ?_ ?_ ?_; rotate_left 2; (simp only [List.getElem?_toArray, List.getElem?_cons_succ, List.getElem?_cons_zero]; rfl); rfl; (intro wS hSw; obtain ⟨S1, S2⟩ := hSw; go_simp; try with_reducible rfl); (exact fun _ _ _ h => h); (try simp only [Act.put, List.setIfInBounds_toArray, List.set_cons_zero, List.set_cons_succ]))); refine tkE ?_)
        (refine wpAnyU_one 9 (o := ?_) (by kernel_rfl) ?_ ?_; rotate_left 1; (simp only [List.getElem?_toArray, List.getElem?_cons_succ, List.getElem?_cons_zero]; rfl); intro K hK)
        go_simp
        have hSn2 := hHeld.ext (he1.alloc (.cells zA 34))
        refine hK.out _ _ (fun _ => hSn2) ?_
        clear hK K
        (try simp only [Act.put, List.setIfInBounds_toArray, List.set_cons_zero, List.set_cons_succ])
        ((refine wpAnyU_one 10 (o := ?_) (by kernel_rfl) ?_ ?_; rotate_left 1; (simp only [List.getElem?_toArray, List.getElem?_cons_succ, List.getElem?_cons_zero]; rfl); intro K hK); go_simp; (refine hK.out _ _ (fun h => absurd rfl h) ?_); clear hK K; refine wpAnyU_done (by kernel_rfl) ?_ _)
        go_wp2_with (fail)
        go_meet
        refine ⟨w1.heap.size, b2, a2, n2, p2, rfl, ?_, Blk.of_arr w1 #[.int .i64 (L0.tmod 7), .bool b2, .slice a2 n2 p2, .slice none 0 0] 34 4 rfl, ?_, ?_⟩
        · exact (((Ext.refl _).drew).trans he1).size
        · exact (hc.more (fun q hq => hq.imp id (fun e => by omega))).ext ((Ext.refl w1).alloc _)
        · exact (((Ext.refl _).drew).trans he1).alloc _
      · go_simp
        have hE9 : Ext ((w.alloc (.cells zA 34)).alloc (.cells #[.int .i8 L0, .int .i16 C0, .int .u8 K0] 152)).drew (((w.alloc (.cells zA 34)).alloc (.cells #[.int .i8 L0, .int .i16 C0, .int .u8 K0] 152)).drew.alloc (.cells zA 34)) := (Ext.refl _).alloc _
        have hB9 := Blk.of_arr ((w.alloc (.cells zA 34)).alloc (.cells #[.int .i8 L0, .int .i16 C0, .int .u8 K0] 152)).drew zA 34 4 rfl
        have hs9 : ((w.alloc (.cells zA 34)).alloc (.cells #[.int .i8 L0, .int .i16 C0, .int .u8 K0] 152)).drew.heap.size = w.heap.size + 1 + 1 := by show ((w.alloc (.cells zA 34)).alloc (.cells #[.int .i8 L0, .int .i16 C0, .int .u8 K0] 152)).heap.size = _; simp
        rw [hs9] at hB9
        have hSn := hHeld.ext hE9
        refine hK.out _ _ (fun _ => hSn) ?_
        clear hK K
        (try simp only [Act.put, List.setIfInBounds_toArray, List.set_cons_zero, List.set_cons_succ])
        (refine wpAnyU_one 7 (o := ?_) (by kernel_rfl) ?_ ?_; rotate_left 1; (simp only [List.getElem?_toArray, List.getElem?_cons_succ, List.getElem?_cons_zero]; rfl); intro K hK)
        go_simp
        refine (int_of (M := fun q => Mx M w.heap.size (w.heap.size + 2) q ∨ q = w.heap.size + 1 + 1) C0 _ ?_ (by omega) (by omega)).mono ?_
        · rintro q (hq | rfl)
          · exact ((HMW.out.ext (Ext.refl _).drew).ext hE9) q hq
          · exact hB9.lt
        rintro e w1 ⟨d0, d1, rfl, hc, he1⟩
        obtain ⟨b2, a2, n2, p2, rfl, rfl⟩ := hc.form
        go_wp2_with (fail)
        clear hSn
        have hSn := hHeld.ext (hE9.trans he1)
        refine hK.out _ _ (fun _ => hSn) ?_
        clear hK K
        (try simp only [Act.put, List.setIfInBounds_toArray, List.set_cons_zero, List.set_cons_succ])
        (refine tkB [8] ?_; (iterate 1 (refine tk1 (oi := ?_) (v := ?_) (by kernel_rfl) (by first | exact hSn | exact hHeld) ?_ ?_ ?_ ?_ ?_; rotate_left 2; (simp only [List.getElem?_toArray, List.getElem?_cons_succ, List.getElem?_cons_zero]; rfl); rfl; (intro wS hSw; obtain ⟨S1, S2⟩ := hSw; go_simp; try with_reducible rfl); (exact fun _ _ _ h => h); (try simp only [Act.put, List.setIfInBounds_toArray, List.set_cons_zero, List.set_cons_succ]))); refine tkE ?_)
        have hB1 := hB9.ext he1
        have q0 := hB1.cell (i := 0) (by omega)
        have q1 := hB1.cell (i := 1) (by omega)
        have q2 := hB1.cell (i := 2) (by omega)
        have q3 := hB1.cell (i := 3) (by omega)
        have f0 := hB1.frozen 0
        have f1 := hB1.frozen 1
        have f2 := hB1.frozen 2
        have f3 := hB1.frozen 3
        simp only [arr] at q0 q1 q2 q3
        ((refine wpAnyU_one 10 (o := ?_) (by kernel_rfl) ?_ ?_; rotate_left 1; (simp only [List.getElem?_toArray, List.getElem?_cons_succ, List.getElem?_cons_zero]; rfl); intro K hK); go_simp; (refine hK.out _ _ (fun h => absurd rfl h) ?_); clear hK K; refine wpAnyU_done (by kernel_rfl) ?_ _)
        go_wp2_with (fail)
        go_meet
        have hkp : Kp (fun q => Mx M w.heap.size (w.heap.size + 2) q ∨ q = w.heap.size + 1 + 1) w1 (set4 w1 (w.heap.size + 1 + 1) 0 (.int .i64 (L0.tmod 7)) (.bool b2) (.slice a2 n2 p2) (.slice none 0 0)) := Kp.set4 (.inr rfl) _ _ _ _ _
        refine ⟨w.heap.size + 1 + 1, b2, a2, n2, p2, rfl, by simp, (hB1.set4 0 (.int .i64 (L0.tmod 7)) (.bool b2) (.slice a2 n2 p2) (.slice none 0 0)).congr (fun i hi => ?_), hc.kp hkp, ?_⟩
        · match i, hi with
          | 0, _ => rfl
          | 1, _ => rfl
          | 2, _ => rfl
          | 3, _ => rfl
        · exact Ext.set4 ((((Ext.refl _).drew).trans hE9).trans he1) (by simp) _ _ _ _ _
    case rest =>
      obtain ⟨g8, b2, a2, n2, p2, rfl, hg8, hB8, hI8, hE8⟩ := hcut
      obtain ⟨kq, hkq, hkq4⟩ : ∃ kq : Nat, K0.tmod 5 = kq ∧ kq ≤ 4 := ⟨(K0 % 5).toNat, by rw [Int.tmod_eq_emod_of_nonneg hK1]; omega, by omega⟩
      have hg8' : w.heap.size + 2 ≤ g8 := by simpa using hg8
      have hBR1 := HBR.out.ext hE8
      have hBN1 := HBN.out.ext hE8
      have HE8 := Lib.hid (HEW.out.trans hE8)
      have hgl := hB8.lt
      have HST : Hid (BnI M w g8 wc.heap.size D (L0.tmod 7) C0 K0 L0 b2 a2 n2 p2 0 (.slice none 0 0) (.slice (some ⟨b, off + 3, none⟩) n1 (cap - 1)) wc) := by
        refine ⟨fun _ => PE.z, fun _ => dfl (D + 1), n1, _, _, _, hB8, Own.nil _ _ _ _ _, fun i hi => by omega, hI8.more (fun q hq => ?_), (((HNR.out (off + 3) (cap - 1) (.inr rfl) (by omega) (by omega)).more (M' := MQ M w g8 (.slice none 0 0)) (fun q hq => ?_)).ext HE8.out), hBR1, hBN1, HE8.out, Nat.le_refl _⟩
        · rcases hq with hq | rfl | hq
          · exact .inl (.inl hq)
          · exact .inl (.inr rfl)
          · cases hq
        · rcases hq with hq | rfl | hq
          · exact Mx.more (Nat.le_refl _) q hq
          · exact .inr (by omega)
          · cases hq
      clear hB8 hI8 hE8 hBR1 hBN1 hg8 HBR HBN HMW HSN hw1 hw2 x0 x1 x2
      have HKQ := Lib.hid hkq
      clear hkq
      go_wp2
      go_loopw [9, 7] (fun i rv wr => ∃ (k : Nat) (cv : Value), k ≤ kq ∧ i = .int .i64 k ∧ Hid (BnI M w g8 wc.heap.size D (L0.tmod 7) C0 K0 L0 b2 a2 n2 p2 k cv rv wr)) (fun i _ _ => kq - (intOf i).toNat)
      case atStart => exact ⟨0, _, Nat.zero_le _, rfl, HST⟩
      case round =>
        clear HST
        obtain ⟨k, cv, hk, rfl, HST⟩ := hrel
        obtain ⟨xx, ts, n', L', C', K', hB8, hO, hRR, hI8, hNR, hBR, hBN, hEr, hBsz⟩ := HST.out
        obtain ⟨ra, rc, rfl⟩ := hNR.form
        obtain ⟨va, vc, rfl⟩ := hO.form
        have y2 := hBN.cell (i := 2) (by omega)
        simp only [arr] at y2
        have hnl := hBN.lt
        have hk5 : (K0.tmod 5) = (kq : Int) := HKQ.out
        by_cases hlt : k < kq
        · have HMQ : Hid (Mb (MQ M w g8 (.slice va k vc)) wr) := by
            rintro q (hq | rfl | hq)
            · exact Mx.mb hM hEr.size (by omega) q hq
            · exact hB8.lt
            · exact (hO.lt q hq).2
          have CTR := Lib.hid (HIH.out _ _ _ _ _ _ _ HMQ.out hNR)
          clear hB8 hO hRR hI8 hNR hBR hBN hEr
          go_wp2_with (fail)
          refine (CTR.out).mono ?_
          rintro e w4 ⟨x, u, n3, L3, C3, K3, t, rfl, hRt, hSt, hN3, he4⟩
          obtain ⟨ua, uc, rfl⟩ := hN3.form
          obtain ⟨xx, ts, _, _, _, _, hB8, hO, hRR, hI8, _, hBR, hBN, hEr, _⟩ := HST.out
          have HOL : Hid (∀ q, (Value.slice va k vc).ownBlock = some q → wc.heap.size ≤ q ∧ q < wr.heap.size) := fun q hq => hO.lt q hq
          have hE5 : Ext wr ((w4.alloc (.cells (peA x) 34)).alloc (.cells (peA x) 34)) := (he4.alloc _).alloc _
          have hE45 : Ext w4 ((w4.alloc (.cells (peA x) 34)).alloc (.cells (peA x) 34)) := ((Ext.refl w4).alloc _).alloc _
          have hB4 := hB8.ext he4
          have z3 := hB4.cell (i := 3) (by omega)
          simp only [arr] at z3
          have hg4 := hB4.lt
          have hO5 := hO.ext hE5
          have hB5 := Blk.of_arr (w4.alloc (.cells (peA x) 34)) (peA x) 34 4 rfl
          simp only [World.size_alloc] at hB5
          have HONE := Lib.hid (pe_one x)
          have HB85 := Lib.hid (hB8.ext hE5)
          have HRR5 : Hid (∀ i, i < k → RR (MQ M w g8 (.slice va k vc)) ((w4.alloc (.cells (peA x) 34)).alloc (.cells (peA x) 34)) (D + 1) (ts i) (.int .i64 (xx i).lv) (.bool (xx i).b) (.slice (xx i).a (xx i).n (xx i).p) (.slice (xx i).ka (xx i).kn (xx i).kp) ∧ Sml (D + 1) (ts i)) := fun i hi => ⟨RR.ext (hRR i hi).1 hE5, (hRR i hi).2⟩
          have HI5 := Lib.hid (hI8.ext hE5)
          have HN5 := Lib.hid (hN3.ext hE45)
          have HRT5 := Lib.hid (RR.ext hRt hE45)
          have HBR5 := Lib.hid (hBR.ext hE5)
          have HBN5 := Lib.hid (hBN.ext hE5)
          have HEr5 := Lib.hid (hEr.trans hE5)
          have HSZ : Hid (wr.heap.size ≤ w4.heap.size) := he4.size
          have hszw := hEr.size
          have HSZC : Hid (wc.heap.size ≤ w4.heap.size) := Nat.le_trans hBsz he4.size
          clear hB8 hO hRR hI8 hBR hBN hEr hRt hN3 he4 hE5 hE45 hB4 hk5 y2
          go_wp2_with (at_builtin; refine wpList_append_fn _ rfl (.tmp 51) (.tmp 53) _ rfl wc.heap.size 34 i0 _ 4 64 Tryz.underlying32 hi hz0 hz1 hz2 rfl (by omega) (.slice va k vc) k (px xx) rfl hO5 (w4.heap.size + 1) 34 1 (arr (peA x)) rfl hB5 HONE.out ?p1 ?p2 ?p3 ?_)
          case p1 => unfold maxLen; omega
          case p2 => omega
          case p3 => have := HSZC.out; simp; omega
          intro gg cap2 w6 hO6 hg6 hat hlt6
          have hne8 : ∀ q, (Value.slice va k vc).ownBlock = some q → q ≠ g8 := fun q hq => by have := (HOL.out q hq).1; omega
          have hB86 := HB85.out.grown hg6 (fun e => hne8 g8 e.symm rfl)
          have z6 := hB86.cell (i := 3) (by omega)
          simp only [arr] at z6
          have zf := hB86.frozen 3
          have hg6l := hB86.lt
          have HF : Hid (BnI M w g8 wc.heap.size D (L0.tmod 7) C0 K0 L0 b2 a2 n2 p2 (k + 1) (.slice (some ⟨gg, 0, none⟩) (k + 1) cap2) (.slice ua n3 uc) (w6.setCell ⟨g8, 3, none⟩ (.slice (some ⟨gg, 0, none⟩) (k + 1) cap2))) := by
            have hgg := hO6.lt gg rfl
            have hmore : ∀ q, (MQ M w g8 (.slice va k vc) q ∨ q = gg) → MQ M w g8 (.slice va k vc) q ∨ ((w4.alloc (.cells (peA x) 34)).alloc (.cells (peA x) 34)).heap.size ≤ q := by
              rintro q (hq | rfl)
              · exact .inl hq
              · rcases hat with h1 | h1
                · exact .inl (.inr (.inr h1))
                · exact .inr (by simp; omega)
            have hkp : Kp (fun q => MQ M w g8 (.slice va k vc) q ∨ q = gg) ((w4.alloc (.cells (peA x) 34)).alloc (.cells (peA x) 34)) (w6.setCell ⟨g8, 3, none⟩ (.slice (some ⟨gg, 0, none⟩) (k + 1) cap2)) := (Kp.grown hg6 fun q hq => .inl (.inr (.inr hq))).trans (Kp.set _ _ (p := ⟨g8, 3, none⟩) (.inl (.inr (.inl rfl))) _)
            have hless : ∀ q, MQ M w g8 (.slice (some ⟨gg, 0, none⟩) (k + 1) cap2) q → (MQ M w g8 (.slice va k vc) q ∨ q = gg) ∨ (w6.setCell ⟨g8, 3, none⟩ (.slice (some ⟨gg, 0, none⟩) (k + 1) cap2)).heap.size ≤ q := by
              rintro q (hq | rfl | hq)
              · exact .inl (.inl (.inl hq))
              · exact .inl (.inl (.inr (.inl rfl)))
              · cases hq; exact .inl (.inr rfl)
            have hoth : ∀ q, q < w.heap.size + 2 → (w6.setCell ⟨g8, 3, none⟩ (.slice (some ⟨gg, 0, none⟩) (k + 1) cap2)).heap[q]? = ((w4.alloc (.cells (peA x) 34)).alloc (.cells (peA x) 34)).heap[q]? := fun q hq => by
              have h1 : q < ((w4.alloc (.cells (peA x) 34)).alloc (.cells (peA x) 34)).heap.size := by have := HSZC.out; simp; omega
              rw [Below.heap_setCell _ _ _ _ (show q ≠ g8 by omega), hg6.block q h1 (fun e => by have := (HOL.out q e.symm).1; omega)]
            refine ⟨snoc xx k x, snoc ts k t, n3, L3, C3, K3, (hB86.set 3 _).congr (fun i hi => ?_), (hO6.congr fun j' hj' => px_app xx k x j' hj').of_heap (fun q hq => ?_), fun i hi => ?_, ((HI5.out.more hmore).kp hkp).more hless, ((HN5.out.more hmore).kp hkp).more hless, HBR5.out.of_heap (hoth _ (by omega)), HBN5.out.of_heap (hoth _ (by omega)), ?_, ?_⟩
            · match i, hi with
              | 0, _ => rfl
              | 1, _ => rfl
              | 2, _ => rfl
              | 3, _ => rfl
            · cases hq
              exact Below.heap_setCell _ _ _ _ (show gg ≠ g8 by omega)
            · by_cases hik : i = k
              · subst hik
                rw [snoc_at, snoc_at]
                exact ⟨RR.more hless (RR.kp hkp (RR.more hmore HRT5.out)), hSt⟩
              · rw [snoc_lt _ _ _ _ (by omega), snoc_lt _ _ _ _ (by omega)]
                obtain ⟨h1, h2⟩ := HRR5.out i (by omega)
                exact ⟨RR.more hless (RR.kp hkp (RR.more hmore h1)), h2⟩
            · exact ((HEr5.out).grown hg6 (fun q hq => by have := (HOL.out q hq).1; omega)).set (p := ⟨g8, 3, none⟩) (by show w.heap.size ≤ g8; omega) _
            · have h1 := hg6.size
              have h2 := HSZC.out
              simp only [World.size_alloc] at h1
              simp [World.setCell]; omega
          clear hO6 hg6 hat hO5 hB5 hB86
          go_wp2
          go_roundw
          case rel => exact ⟨k + 1, _, by omega, by go_num, HF⟩
          case measure => simp [intOf]; omega
        · have hkk : k = kq := by omega
          subst hkk
          have w0 := hB8.cell (i := 0) (by omega)
          have w1 := hB8.cell (i := 1) (by omega)
          have w2 := hB8.cell (i := 2) (by omega)
          have w3 := hB8.cell (i := 3) (by omega)
          simp only [arr] at w0 w1 w2 w3
          have hgw := hB8.lt
          have hr0 := hBR.cell (i := 0) (by omega)
          have hr1 := hBR.cell (i := 1) (by omega)
          have hr2 := hBR.cell (i := 2) (by omega)
          have hr3 := hBR.cell (i := 3) (by omega)
          simp only [arr] at hr0 hr1 hr2 hr3
          have hf0 := hBR.frozen 0
          have hf1 := hBR.frozen 1
          have hf2 := hBR.frozen 2
          have hf3 := hBR.frozen 3
          obtain ⟨⟨_, _, _, _⟩, _, ⟨r0, r1, r2, r3⟩, hkp, hEf⟩ := fin4 (M' := MQ M w g8 (.slice va k vc)) (w := w) (.int .i64 (L0.tmod 7)) (.bool b2) (.slice a2 n2 p2) (.slice va k vc) hBR (.inl (Mx.at (by omega))) (Nat.le_refl _) hEr
          have HF : Hid (BnPost M w (D + 1) (.returned (.tuple #[.agg #[.int .i64 (L0.tmod 7), .bool b2, .slice a2 n2 p2, .slice va k vc], .slice ra n' rc])) (set4 wr w.heap.size 0 (.int .i64 (L0.tmod 7)) (.bool b2) (.slice a2 n2 p2) (.slice va k vc))) := by
            obtain ⟨rw_, hr, hv, hc⟩ := (hI8.kp hkp).raw
            have hsub : ∀ q, M q → MQ M w g8 (.slice va k vc) q ∨ (set4 wr w.heap.size 0 (.int .i64 (L0.tmod 7)) (.bool b2) (.slice a2 n2 p2) (.slice va k vc)).heap.size ≤ q := fun q hq => .inl (.inl (.inl hq))
            refine ⟨⟨L0.tmod 7, b2, a2, n2, p2, va, k, vc⟩, _, n', L', C', K', mkT (D + 1) (L0.tmod 7) rw_ k ts, rfl, ⟨rfl, by show -9223372036854775808 ≤ L0.tmod 7 ∧ L0.tmod 7 ≤ 9223372036854775807; omega, hr.more hsub, by show k ≤ _; omega, ?_⟩, ?_, (hNR.kp hkp).more hsub, hEf⟩
            · rcases hO with ⟨h1, h2⟩ | ⟨g, cp, F, h1, hg, hB, hc2, hm2, hF⟩
              · exact .inl ⟨⟨none, 0, h1, Nat.zero_le _, fun _ => rfl⟩, h2⟩
              · refine .inr ⟨g, 0, cp, h1, hc2, hm2, ⟨?_, ?_⟩, fun i hi => ?_⟩
                · rw [size_set4]; exact hB.lt
                · intro hm
                  have := hM g hm
                  omega
                · have hBs := hB.of_heap (heap_set4 wr w.heap.size 0 (.int .i64 (L0.tmod 7)) (.bool b2) (.slice a2 n2 p2) (.slice va k vc) g (by omega))
                  have hi' : i < k := hi
                  refine ⟨_, _, _, _, ?_, ?_, ?_, ?_, RR.more hsub (RR.kp hkp (hRR i hi').1)⟩
                  · rw [Nat.zero_add, hBs.cell (by omega), hF _ (by omega), px0]
                  · rw [Nat.zero_add, hBs.cell (by omega), hF _ (by omega), px1]
                  · rw [Nat.zero_add, hBs.cell (by omega), hF _ (by omega), px2]
                  · rw [Nat.zero_add, hBs.cell (by omega), hF _ (by omega), px3]
            · by_cases hlv : 1 ≤ L0.tmod 7 ∧ L0.tmod 7 ≤ 4
              · exact sml_node (D + 1) _ _ _ _ hlv hkq4 fun i hi => (hRR i hi).2
              · exact sml_const (D + 1) _ _ _ _ (by omega) (by rw [hv]; omega)
          unfold set4 at r0 r1 r2 r3
          have R0 := Lib.hid r0
          have R1 := Lib.hid r1
          have R2 := Lib.hid r2
          have R3 := Lib.hid r3
          have hws : w.heap.size < wr.heap.size := hBR.lt
          clear hO hRR hI8 hNR hB8 hBR hBN hEr hkp hEf r0 r1 r2 r3
          go_wp2
          exact bodyPost_ret (v := .tuple #[.agg #[.int .i64 (L0.tmod 7), .bool b2, .slice a2 n2 p2, .slice va k vc], .slice ra n' rc]) (by simp [results, Tryz.results90, go_sem, R0.out, R1.out, R2.out, R3.out]) rfl HF.out
theorem rf_bn : ∀ D, D ≤ 100 → BnCtr D
  | 0, _ => fun M v n L C K w _ h => bn_zero 0 M v n L C K w h (.inr rfl)
  | D + 1, hD => fun M v n L C K w hM h => by
    by_cases h0 : n = 0
    · exact bn_zero (D + 1) M v n L C K w h (.inl h0)
    · have e : ((D + 1 : Nat) : Int) = (D : Int) + 1 := by omega
      rw [e]
      exact bn_walk D (rf_bn D (by omega)) M v n L C K w hM h h0 (by omega)
end Go.Proofs.YtgppogaoilijcaaGreat

namespace Go.Proofs.YtgppogaoilijcaaGreat
open Go.RowKit

def BT (M : Nat → Prop) (w : World) (x : PE) (l : List Tm) : Prop := ∃ t : RT 7, RR M w 7 t (.int .i64 x.lv) (.bool x.b) (.slice x.a x.n x.p) (.slice x.ka x.kn x.kp) ∧ Sml 7 t ∧ terms 7 t = l
section
variable {M M' : Nat → Prop} {w w' : World} {x : PE} {l : List Tm}
theorem BT.ext (h : BT M w x l) (he : Ext w w') : BT M w' x l := by
  obtain ⟨t, h1, h2⟩ := h; exact ⟨t, RR.ext h1 he, h2⟩
theorem BT.kp (h : BT M w x l) (he : Kp M w w') : BT M w' x l := by
  obtain ⟨t, h1, h2⟩ := h; exact ⟨t, RR.kp he h1, h2⟩
theorem BT.more (h : BT M w x l) (hm : ∀ g, M' g → M g ∨ w.heap.size ≤ g) : BT M' w x l := by
  obtain ⟨t, h1, h2⟩ := h; exact ⟨t, RR.more hm h1, h2⟩
theorem BT.pi (h : BT M w x l) : PI M w x l := by
  obtain ⟨t, h1, h2, h3⟩ := h; exact ⟨7, t, h1, .inr (h2.tb (Nat.le_refl _)), by rw [h3]; exact Sim.refl _⟩
theorem BT.len (h : BT M w x l) : l.length ≤ 16384 := by
  obtain ⟨t, _, h2, h3⟩ := h
  have h4 := h2.1.1
  rw [h3] at h4
  have : 4 ^ 7 = 16384 := by decide
  omega
theorem BT.nrm (h : BT M w x l) : dlen (nrm l) ≤ 1 := by
  obtain ⟨t, _, h2, h3⟩ := h
  have h4 := h2.1.2.1
  rw [h3] at h4
  have : 4 ^ 7 = 16384 := by decide
  exact (dlen_le_iff _ _).2 (by omega)
theorem BT.deg (h : BT M w x l) : Deg 21 l := by
  obtain ⟨t, _, h2, h3⟩ := h
  intro m hm k
  refine Classical.byContradiction fun hc => hm (coefAt_zero fun s hs e => ?_)
  have := h2.1.2.2 s (by rw [h3]; exact hs) k
  rw [e] at this
  omega
theorem BT.nn (h : BT M w x l) : ∀ m : Mo, m.nn = false → coefAt l m = 0 := by
  obtain ⟨t, _, h2, h3⟩ := h
  intro m hm
  refine coefAt_zero fun s hs e => ?_
  have := terms_nn 7 t s (by rw [h3]; exact hs)
  rw [e, hm] at this; cases this
end
set_option maxRecDepth 100000 in
set_option maxHeartbeats 4000000 in
theorem rf_build (M : Nat → Prop) (v : Value) (n : Nat) (L C K : Nat → Int) (w : World) (hM : Mb M w) (h : NodesR M w v n L C K) : Calls Tryz.prog 28 #[v] w fun e w' => ∃ x l, e = .returned (.agg (peA x)) ∧ BT M w' x l ∧ Ext w w' := by
  have hE : Ext w (w.alloc (.cells zA 34)) := (Ext.refl w).alloc _
  have hB := Blk.of_arr w zA 34 4 rfl
  have hM2 : Mb (Mx M w.heap.size (w.heap.size + 1)) (w.alloc (.cells zA 34)) := Mx.mb hM (by simp) (by simp)
  have h2 := (h.more (M' := Mx M w.heap.size (w.heap.size + 1)) (Mx.more (Nat.le_refl _))).ext hE
  have ctr := rf_bn 6 (by omega) _ v n L C K _ hM2 h2
  rw [show ((6 : Nat) : Int) = 6 from rfl] at ctr
  have CTR := Lib.hid ctr
  clear ctr
  go_enter Tryz.func28, Tryz.ntmps28
  go_wp2_with (fail)
  refine (CTR.out).mono ?_
  rintro e w1 ⟨x, u, n', L', C', K', t, rfl, hR, hS, hNN, he1⟩
  obtain ⟨ua, uc, rfl⟩ := hNN.form
  clear hNN
  have he2 : Ext w1 (w1.alloc (.cells #[.int .i64 x.lv, .bool x.b, .slice x.a x.n x.p, .slice x.ka x.kn x.kp] 34)) := (Ext.refl w1).alloc _
  have hP4 := (Blk.of_arr w1 (peA x) 34 4 rfl).p4
  have hl2 : w1.heap.size < (w1.alloc (.cells #[.int .i64 x.lv, .bool x.b, .slice x.a x.n x.p, .slice x.ka x.kn x.kp] 34)).heap.size := by simp
  have hBB := (hB.ext he1).ext he2
  have hEE := (hE.trans he1).trans he2
  have hRR := RR.ext hR he2
  generalize hW : w1.alloc (.cells #[.int .i64 x.lv, .bool x.b, .slice x.a x.n x.p, .slice x.ka x.kn x.kp] 34) = W at hP4 hl2 hBB hEE hRR
  have HW := Lib.hid hW
  obtain ⟨⟨q0, q1, q2, q3⟩, ⟨f0, f1, f2, f3⟩, ⟨r0, r1, r2, r3⟩, hk, hf⟩ := fin4 (M' := Mx M w.heap.size (w.heap.size + 1)) (w := w) (.int .i64 x.lv) (.bool x.b) (.slice x.a x.n x.p) (.slice x.ka x.kn x.kp) hBB (Mx.at (by omega)) (Nat.le_refl _) hEE
  have HF : Hid (∃ y l, Ending.returned (.agg (peA x)) = .returned (.agg (peA y)) ∧ BT M (set4 W w.heap.size 0 (.int .i64 x.lv) (.bool x.b) (.slice x.a x.n x.p) (.slice x.ka x.kn x.kp)) y l ∧ Ext w (set4 W w.heap.size 0 (.int .i64 x.lv) (.bool x.b) (.slice x.a x.n x.p) (.slice x.ka x.kn x.kp))) :=
    ⟨x, _, rfl, ⟨t, RR.more Mx.less (RR.kp hk hRR), hS, rfl⟩, hf⟩
  unfold set4 at r0 r1 r2 r3
  simp only [arr] at q0 q1 q2 q3
  obtain ⟨p0, p1, p2, p3⟩ := hP4
  have hl1 : w.heap.size < W.heap.size := hBB.lt
  clear hE hB hM2 h2 he1 he2 hR hS hk hf h hBB hEE hRR hW
  go_upto_region 2 with (fail)
  rw [HW.out]
  go_wp2
  exact bodyPost_ret (v := .agg (peA x)) (by simp [results, Tryz.results28, go_sem, r0, r1, r2, r3]) rfl HF.out
end Go.Proofs.YtgppogaoilijcaaGreat

namespace Go.Proofs.YtgppogaoilijcaaGreat
open Go.RowKit

section
variable {P : Program} {ops : Array Oper} {Q : Exit → Act → World → Prop} {md : Region.Mode} {S : World → Prop} {last : Nat}
end
def N2 (o7 o8 : Option Nat) : Nat → Prop := fun q => o7 = some q ∨ o8 = some q
structure R6 (l m : List Tm) (W0 : World) (o7 o8 : Option Nat) (ra rb : Option PE) (w : World) : Prop where
  ext : Ext W0 w
  b7 : ∀ g, o7 = some g → W0.heap.size ≤ g ∧ Blk w g 34 4 (arr zA)
  b8 : ∀ g, o8 = some g → W0.heap.size ≤ g ∧ Blk w g 34 4 (arr zA)
  ne : ∀ g h, o7 = some g → o8 = some h → g ≠ h
  ca : ∀ a, ra = some a → CRx (N2 o7 o8) w 4 a l
  cb : ∀ b, rb = some b → CRx (N2 o7 o8) w 4 b m
section
variable {l m : List Tm} {W0 w w' : World} {o7 o8 : Option Nat} {ra rb : Option PE} {x y : PE}
theorem R6.grow (h : R6 l m W0 o7 o8 ra rb w) (he : Ext w w') : R6 l m W0 o7 o8 ra rb w' :=
  ⟨h.ext.trans he, fun g hg => ⟨(h.b7 g hg).1, (h.b7 g hg).2.ext he⟩, fun g hg => ⟨(h.b8 g hg).1, (h.b8 g hg).2.ext he⟩, h.ne, fun a ha => (h.ca a ha).ext he, fun b hb => (h.cb b hb).ext he⟩
theorem R6.mb (h : R6 l m W0 o7 o8 ra rb w) : Mb (N2 o7 o8) w := by
  rintro q (hq | hq)
  · exact (h.b7 q hq).2.lt
  · exact (h.b8 q hq).2.lt
theorem R6.pi (h : R6 l m W0 o7 o8 ra rb w) {r : List Tm} (hb : BT M0 W0 x r) : PI (N2 o7 o8) w x r := by
  refine (hb.pi.more (M' := N2 o7 o8) ?_).ext h.ext
  rintro q (hq | hq)
  · exact .inr (h.b7 q hq).1
  · exact .inr (h.b8 q hq).1
end
end Go.Proofs.YtgppogaoilijcaaGreat

namespace Go.Proofs.YtgppogaoilijcaaGreat
open Go.RowKit

theorem BT.nnT {M : Nat → Prop} {w : World} {x : PE} {l : List Tm} (h : BT M w x l) : ∀ s ∈ l, s.2.nn = true := by
  obtain ⟨t, _, _, h3⟩ := h
  intro s hs
  exact terms_nn 7 t s (by rw [h3]; exact hs)
theorem bt_terms (x : PE) (l : List Tm) (w : World) (h : BT M0 w x l) : Calls Tryz.prog 29 #[.agg (peA x)] w fun e w' => ∃ v, e = .returned v ∧ PolyV M0 w' v l ∧ Ext w w' := by
  have hlen := h.len
  obtain ⟨t, h1, h2, rfl⟩ := h
  refine (rf_terms 7 M0 w.heap.size t _ _ _ _ w (Nat.le_refl _) (RR.more (fun g hg => hg) h1) (by omega) (by omega)).mono ?_
  rintro e w2 ⟨u, n, z, xx, rfl, hRV, _, hxl, he2⟩
  have hn : n ≤ 1099511627776 := by have h1 := congrArg List.length hxl; rw [xls_len] at h1; omega
  have hPV := hRV.toV (fun g hg => (mb0 w).new hg) hn
  rw [hxl] at hPV
  exact ⟨u, rfl, hPV, he2⟩
def SP4 (c : Nat) (x y : PE) (g7 g8 : Nat) (a b : PE) (w : World) : Prop := P4 w c x ∧ P4 w (c + 1) y ∧ P4 w g7 a ∧ P4 w g8 b
theorem SP4.ext {c : Nat} {x y : PE} {g7 g8 : Nat} {a b : PE} {w w' : World} (h : SP4 c x y g7 g8 a b w) (he : Ext w w') : SP4 c x y g7 g8 a b w' := ⟨h.1.ext he, h.2.1.ext he, h.2.2.1.ext he, h.2.2.2.ext he⟩
end Go.Proofs.YtgppogaoilijcaaGreat
