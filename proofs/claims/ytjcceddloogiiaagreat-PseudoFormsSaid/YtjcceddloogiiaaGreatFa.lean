/- cylinderref22.Build again: a polynomial of n nodes has degrees below n. -/
import Derived.Test.YtjcceddloogiiaaGreatMj
import Derived.Test.YtjcceddloogiiaaGreatBk
set_option linter.unusedVariables false
set_option linter.unusedSimpArgs false

namespace Go.Proofs.YtjcceddloogiiaaGreat
open Go.RowKit

def CnL (c : Nat) (l : List Tm) : Prop := ∀ s ∈ l, s.1 ≠ 0 → 1 ≤ c ∧ ∀ k, s.2.get k ≤ (c : Int) - 1
theorem CnL.le {c c' : Nat} {l : List Tm} (h : CnL c l) (hc : c ≤ c') : CnL c' l := fun s hs h0 => ⟨by have := (h s hs h0).1; omega, fun k => by have := (h s hs h0).2 k; omega⟩
theorem CnL.deg {c : Nat} {l : List Tm} (h : CnL (c + 1) l) : Deg c l := fun m hm k => by
 refine Classical.byContradiction fun hc => hm ?_
 have : ∀ l' : List Tm, (∀ s ∈ l', s.1 ≠ 0 → s.2 ≠ m) → coefAt l' m = 0 := by
  intro l'
  induction l' with
  | nil => intro _; rfl
  | cons s l' ih =>
   intro hh
   show (if s.2 = m then s.1 else 0) + coefAt l' m = 0
   rw [ih fun t ht => hh t (List.mem_cons_of_mem _ ht)]
   by_cases e : s.2 = m
   ·rw [if_pos e]
    have : s.1 = 0 := Classical.byContradiction fun h0 => hh s List.mem_cons_self h0 e
    omega
   ·rw [if_neg e]; rfl
 refine this l fun s hs h0 e => ?_
 have := (h s hs h0).2 k
 rw [e] at this
 omega
def CntI (D k n1 n' : Nat) (P : Nat → List Tm) : Prop := ∃ cs : Nat → Nat, (∀ i, i < k → CnL (cs i) (P i) ∧ (1 ≤ cs i → i ≤ nsum cs i)) ∧ nsum cs k + n' = n1 ∧ (1 ≤ n' → D ≠ 0 → k ≤ nsum cs k)
theorem CntI.start (D n1 : Nat) (P : Nat → List Tm) : CntI D 0 n1 n1 P := ⟨fun _ => 0, fun i hi => absurd hi (Nat.not_lt_zero _), Nat.zero_add _, fun _ _ => Nat.le_refl _⟩
theorem nsum_congr {f g : Nat → Nat} : ∀ n, (∀ i, i < n → f i = g i) → nsum f n = nsum g n
 | 0, _ => rfl
 | n + 1, h => by
  show nsum f n + f n = nsum g n + g n
  rw [nsum_congr n fun i hi => h i (by omega), h n (by omega)]
theorem CntI.congr {D k n1 n' : Nat} {P Q : Nat → List Tm} (h : CntI D k n1 n' P) (hp : ∀ i, i < k → P i = Q i) : CntI D k n1 n' Q := by
 obtain ⟨cs, h1, h2⟩ := h
 exact ⟨cs, fun i hi => by rw [← hp i hi]; exact h1 i hi, h2⟩
theorem CntI.next {D k n1 n' n3 : Nat} {P : Nat → List Tm} {l : List Tm} (h : CntI D k n1 n' P) (hc : n3 ≤ n' ∧ CnL (n' - n3) l ∧ (n' ≠ 0 → D ≠ 0 → n3 < n') ∧ (D = 0 → n3 = n')) : CntI D (k + 1) n1 n3 (snoc P k l) := by
 obtain ⟨cs, h1, h2, h3⟩ := h
 obtain ⟨c1, c2, c3, c4⟩ := hc
 have hs : ∀ i, i ≤ k → nsum (snoc cs k (n' - n3)) i = nsum cs i := fun i hi => nsum_congr i fun j hj => snoc_lt _ _ _ _ (by omega)
 have hk : nsum (snoc cs k (n' - n3)) (k + 1) = nsum cs k + (n' - n3) := by
  show nsum (snoc cs k (n' - n3)) k + snoc cs k (n' - n3) k = _
  rw [hs k (Nat.le_refl k), snoc_at]
 refine ⟨snoc cs k (n' - n3), fun i hi => ?_, by rw [hk]; omega, fun h5 h6 => ?_⟩
 ·by_cases hik : i = k
  ·subst hik
   rw [snoc_at, snoc_at, hs i (Nat.le_refl i)]
   refine ⟨c2, fun h5 => h3 (by omega) fun h6 => ?_⟩
   have := c4 h6
   omega
  ·rw [snoc_lt _ _ _ _ (by omega), snoc_lt _ _ _ _ (by omega), hs i (by omega)]
   exact h1 i (by omega)
 ·rw [hk]
  have := h3 (by omega) h6
  have := c3 (by omega) h6
  omega
theorem nsum_mn (f : Nat → Nat) {i k : Nat} (h : i ≤ k) : nsum f i ≤ nsum f k := by
 induction k with
 | zero => have : i = 0 := by omega
           subst this; exact Nat.le_refl _
 | succ k ih =>
  by_cases e : i = k + 1
  ·subst e; exact Nat.le_refl _
  ·show _ ≤ nsum f k + f k
   have := ih (by omega)
   omega
theorem terms_mkc' (d : Nat) (r : RawI) (n : Nat) (kid : Nat → RT d) (lv : Int) (h0 : lv ≤ 0) : terms (d + 1) (mkT d lv r n kid) = [(r.val, Mo.zero)] := terms_const h0
theorem terms_big (d : Nat) (r : RawI) (n : Nat) (kid : Nat → RT d) (lv : Int) (h4 : 4 < lv) : terms (d + 1) (mkT d lv r n kid) = [] := by
 show (if lv ≤ 0 then _ else if 4 < lv then [] else _) = _
 rw [if_neg (by omega), if_pos h4]
theorem CntI.node {D k n1 n' : Nat} {lv : Int} {r : RawI} {ts : Nat → RT (D + 1)} (h : CntI D k n1 n' (fun i => terms (D + 1) (ts i))) : n' ≤ n1 + 1 ∧ CnL (n1 + 1 - n') (terms (D + 1 + 1) (mkT (D + 1) lv r k ts)) ∧ (n1 + 1 ≠ 0 → D + 1 ≠ 0 → n' < n1 + 1) ∧ (D + 1 = 0 → n' = n1 + 1) := by
 obtain ⟨cs, h1, h2, h3⟩ := h
 refine ⟨by omega, ?_, fun _ _ => by omega, fun h => by omega⟩
 by_cases h0 : lv ≤ 0
 ·rw [terms_mkc' _ _ _ _ _ h0]
  intro s hs _
  simp only [List.mem_cons, List.not_mem_nil, or_false] at hs
  subst hs
  refine ⟨by omega, fun q => ?_⟩
  show Mo.zero.get q ≤ _
  rw [get_zero]; omega
 by_cases h4 : 4 < lv
 ·rw [terms_big _ _ _ _ _ h4]
  intro s hs; cases hs
 ·rw [terms_mkn _ _ _ _ _ (by omega) (by omega)]
  intro s hs hs0
  obtain ⟨i, hi, t, ht, rfl⟩ := poly_mem hs
  obtain ⟨c1, c2⟩ := h1 i hi
  obtain ⟨d1, d2⟩ := c1 t ht hs0
  have hi2 := c2 d1
  have hm := nsum_mn cs (show i + 1 ≤ k by omega)
  have hm2 : nsum cs (i + 1) = nsum cs i + cs i := rfl
  refine ⟨by omega, fun q => ?_⟩
  have hd := d2 q
  show (Mo.add t.2 (xp lv.toNat (i : Int))).get q ≤ _
  rw [get_add, get_xp _ _ _ (by omega) (by omega)]
  split <;> omega
theorem zero_tree2 (M : Nat → Prop) (w : World) (D : Nat) : ∃ t : RT (D + 1), RR M w (D + 1) t (.int .i64 PE.z.lv) (.bool PE.z.b) (.slice PE.z.a PE.z.n PE.z.p) (.slice PE.z.ka PE.z.kn PE.z.kp) ∧ Sml (D + 1) t ∧ CnL 0 (terms (D + 1) t) :=
 ⟨mkT D 0 ⟨false, 0, fun _ => 0⟩ 0 (fun _ => dfl D), ⟨rfl, by show -9223372036854775808 ≤ (0 : Int) ∧ (0 : Int) ≤ 9223372036854775807; omega, ⟨rfl, natr_nil _ _ _⟩, Nat.zero_le _, .inl ⟨⟨none, 0, rfl, Nat.zero_le _, fun _ => rfl⟩, rfl⟩⟩, sml_const D 0 _ 0 _ (.inl (Int.le_refl _)) (by decide), by
  rw [terms_mkc' _ _ _ _ _ (Int.le_refl _)]
  intro s hs h0
  simp only [List.mem_cons, List.not_mem_nil, or_false] at hs
  subst hs
  exact absurd (by decide) h0⟩
def BnPost2 (M : Nat → Prop) (w : World) (D n : Nat) (e : Ending) (w' : World) : Prop := ∃ (x : PE) (u : Value) (n' : Nat) (L' C' K' : Nat → Int) (t : RT (D + 1)), (n' ≤ n ∧ CnL (n - n') (terms (D + 1) t) ∧ (n ≠ 0 → D ≠ 0 → n' < n) ∧ (D = 0 → n' = n)) ∧ e = .returned (.tuple #[.agg (peA x), u]) ∧ RR M w' (D + 1) t (.int .i64 x.lv) (.bool x.b) (.slice x.a x.n x.p) (.slice x.ka x.kn x.kp) ∧ Sml (D + 1) t ∧ NodesR M w' u n' L' C' K' ∧ Ext w w'
def BnCtr2 (D : Nat) : Prop := ∀ (M : Nat → Prop) (v : Value) (n : Nat) (L C K : Nat → Int) (w : World), Mb M w → NodesR M w v n L C K → Calls Tryz.prog 110 #[v, .int .i64 (D : Int)] w (BnPost2 M w D n)
set_option maxRecDepth 100000 in
set_option maxHeartbeats 4000000 in
theorem bn_zero2 (D : Nat) (M : Nat → Prop) (v : Value) (n : Nat) (L C K : Nat → Int) (w : World) (h : NodesR M w v n L C K) (h0 : n = 0 ∨ D = 0) : Calls Tryz.prog 110 #[v, .int .i64 (D : Int)] w (BnPost2 M w D n) := by
 obtain ⟨a, cap, rfl⟩ := h.form
 have hE : Ext w (w.alloc (.cells zA 33)) := (Ext.refl w).alloc _
 obtain ⟨t, ht1, ht2, ht3⟩ := zero_tree2 M (w.alloc (.cells zA 33)) D
 have HF : Hid (BnPost2 M w D n (.returned (.tuple #[.agg zA, .slice a n cap])) (w.alloc (.cells zA 33))) := ⟨PE.z, _, n, L, C, K, t, ⟨Nat.le_refl _, by rw [Nat.sub_self]; exact ht3, fun h1 h2 => absurd h0 (by omega), fun _ => rfl⟩, rfl, ht1, ht2, h.ext hE, hE⟩
 clear h ht1 ht2 ht3 hE
 have hc : ((n : Int) == 0) = true ∨ (((n : Int) == 0) = false ∧ ((D : Int) == 0) = true) := by
  by_cases hn : n = 0
  ·exact .inl (by simp [hn])
  ·exact .inr ⟨by simp; omega, by simp; omega⟩
 clear h0
 rcases hc with d1 | ⟨d1, d2⟩
 all_goals
  go_enter Tryz.func110, Tryz.ntmps110
  go_wp2
  exact bodyPost_ret (v := .tuple #[.agg zA, .slice a n cap]) (by simp [results, Tryz.results110, go_sem]) rfl HF.out
def BnI2 (M : Nat → Prop) (w : World) (g8 B0 D : Nat) (lv C0 K0 L0 : Int) (b2 : Bool) (a2 : Option Addr) (n2 p2 k n1 : Nat) (cv rv : Value) (wr : World) : Prop :=
 ∃ (xx : Nat → PE) (ts : Nat → RT (D + 1)) (n' : Nat) (L' C' K' : Nat → Int), CntI D k n1 n' (fun i => terms (D + 1) (ts i)) ∧ Blk wr g8 33 4 (arr #[.int .i64 lv, .bool b2, .slice a2 n2 p2, cv]) ∧ Own wr B0 33 4 cv k (px xx) ∧
  (∀ i, i < k → RR (MQ M w g8 cv) wr (D + 1) (ts i) (.int .i64 (xx i).lv) (.bool (xx i).b) (.slice (xx i).a (xx i).n (xx i).p) (.slice (xx i).ka (xx i).kn (xx i).kp) ∧ Sml (D + 1) (ts i)) ∧ IntC (MQ M w g8 cv) wr (.bool b2) (.slice a2 n2 p2) C0 ∧ NodesR (MQ M w g8 cv) wr rv n' L' C' K' ∧
  Blk wr w.heap.size 33 4 (arr zA) ∧ Blk wr (w.heap.size + 1) 202 3 (arr #[.int .i8 L0, .int .i16 C0, .int .u8 K0]) ∧ Ext w wr ∧ B0 ≤ wr.heap.size
set_option maxRecDepth 100000 in
set_option maxHeartbeats 8000000 in
theorem bn_walk2 (D : Nat) (ih : BnCtr2 D) (M : Nat → Prop) (v : Value) (n : Nat) (L C K : Nat → Int) (w : World) (hM : Mb M w) (h : NodesR M w v n L C K) (hn : n ≠ 0) (hD : D ≤ 100) : Calls Tryz.prog 110 #[v, .int .i64 ((D : Int) + 1)] w (BnPost2 M w (D + 1) n) := by
 obtain ⟨i0, hi, hz0, hz1, hz2⟩ := info_parts Tryz.info33
 obtain ⟨hnL, ⟨h0, _⟩ | ⟨b, off, cap, rfl, hnc, hcm, ⟨hb, hMb⟩, hcells⟩⟩ := h
 ·exact absurd h0 hn
 obtain ⟨x0, x1, x2, ⟨hL1, hL2⟩, ⟨hC1, hC2⟩, hK1, hK2⟩ := hcells 0 (by omega)
 rw [Nat.zero_mul, Nat.add_zero] at x0 x1 x2
 obtain ⟨n1, rfl⟩ : ∃ n1, n = n1 + 1 := ⟨n - 1, by omega⟩
 have HC := Lib.hid hcells
 have HIH := Lib.hid ih
 clear hcells ih hn
 generalize L 0 = L0 at *
 generalize C 0 = C0 at *
 generalize K 0 = K0 at *
 have d1 : ((n1 : Int) + 1 == 0) = false := by simp; omega
 have d2 : ((D : Int) + 1 == 0) = false := by simp; omega
 have hNR : ∀ (o c1 : Nat), (n1 = 0 ∨ o = off + 3) → n1 ≤ c1 → c1 ≤ maxLen → NodesR M w (.slice (some ⟨b, o, none⟩) n1 c1) n1 (fun i => L (i + 1)) (fun i => C (i + 1)) (fun i => K (i + 1)) := fun o c1 ho h1 h2 => by
  refine ⟨by omega, .inr ⟨b, o, c1, rfl, h1, h2, ⟨hb, hMb⟩, fun i hi => ?_⟩⟩
  have e : o = off + 3 := ho.resolve_left (by omega)
  have := HC.out (i + 1) (by omega)
  rw [show off + (i + 1) * 3 = o + i * 3 by omega] at this
  exact this
 have HNR := Lib.hid hNR
 clear hNR
 have hE0 : Ext w (w.alloc (.cells zA 33)) := (Ext.refl w).alloc _
 have hEW : Ext w ((w.alloc (.cells zA 33)).alloc (.cells #[.int .i8 L0, .int .i16 C0, .int .u8 K0] 202)) := hE0.alloc _
 have hBR := (Blk.of_arr w zA 33 4 rfl).alloc (.cells #[.int .i8 L0, .int .i16 C0, .int .u8 K0] 202)
 have hBN := Blk.of_arr (w.alloc (.cells zA 33)) #[.int .i8 L0, .int .i16 C0, .int .u8 K0] 202 3 rfl
 simp only [World.size_alloc] at hBN
 have HEW := Lib.hid hEW
 have HBR := Lib.hid hBR
 have HBN := Lib.hid hBN
 have hMW : Mb (Mx M w.heap.size (w.heap.size + 2)) ((w.alloc (.cells zA 33)).alloc (.cells #[.int .i8 L0, .int .i16 C0, .int .u8 K0] 202)) := Mx.mb hM (by simp; omega) (by simp)
 have HMW := Lib.hid hMW
 have HSN : Hid (SNode (w.heap.size + 1) L0 C0 ((w.alloc (.cells zA 33)).alloc (.cells #[.int .i8 L0, .int .i16 C0, .int .u8 K0] 202)).drew) := SNode.ext ⟨hBN.cell (i := 0) (by omega), hBN.cell (i := 1) (by omega)⟩ (Ext.refl _).drew
 have ht1 : -6 ≤ Int.tmod L0 7 ∧ Int.tmod L0 7 ≤ 6 := by
  have h1 := Int.tmod_lt_of_pos L0 (show (0 : Int) < 7 by omega)
  have h2 : -7 < Int.tmod L0 7 := by
   have := Int.tmod_lt_of_pos (-L0) (show (0 : Int) < 7 by omega)
   rw [Int.neg_tmod] at this
   omega
  omega
 obtain ⟨ht2, ht3⟩ := ht1
 have hcap : cap = 1 ∨ cap ≠ 1 := by omega
 clear hE0 hEW hBR hBN hMW
 rcases hcap with hcap | hcap
 ·obtain rfl : n1 = 0 := by omega
  subst hcap
  have hw1 : IntKind.i64.wrap (L0.tmod 7) = L0.tmod 7 := IntWalk.i64_in _ (by omega)
  have hw2 : IntKind.i64.wrap C0 = C0 := IntWalk.i64_in _ (by omega)
  go_enter Tryz.func110, Tryz.ntmps110
  go_wp2
  go_cut [8] (BnS (Mx M w.heap.size (w.heap.size + 2)) ((w.alloc (.cells zA 33)).alloc (.cells #[.int .i8 L0, .int .i16 C0, .int .u8 K0] 202)) (L0.tmod 7) C0)
  case first =>
   refine wp_region_u (SNode (w.heap.size + 1) L0 C0) 10 (by kernel_rfl) HSN.out (fun hHeld => ?_)
   (refine tkB [0, 1, 2, 3, 4, 5, 6] ?_; (iterate 7 (refine tk1 (oi := ?_) (v := ?_) (by kernel_rfl) (by first | exact hSn | exact hHeld) ?_ ?_ ?_ ?_ ?_; rotate_left 2; (simp only [xgA, xgB, xgC]; rfl); rfl; (intro wS hSw; obtain ⟨S1, S2⟩ := hSw; go_simp; try with_reducible rfl); (exact fun _ _ _ h => h); (try simp only [Act.put, xgD, xgE, xgF]))); refine tkE ?_)
   (refine wpAnyU_two 7 9 (oi := ?_) (oj := ?_) (by kernel_rfl) ?_ ?_ ?_ ?_; rotate_left 2; (simp only [xgA, xgB, xgC]; rfl); (simp only [xgA, xgB, xgC]; rfl); all_goals intro K hK)
   ·go_simp
    refine (int_of (M := Mx M w.heap.size (w.heap.size + 2)) C0 _ (HMW.out.ext (Ext.refl _).drew) (by omega) (by omega)).mono ?_
    rintro e w1 ⟨d0, d1, rfl, hc, he1⟩
    obtain ⟨b2, a2, n2, p2, rfl, rfl⟩ := hc.form
    go_wp2_with (fail)
    have hSn := hHeld.ext he1
    refine hK.out _ _ (fun _ => hSn) ?_
    clear hK K
    (try simp only [Act.put, xgD, xgE, xgF])
    (refine tkB [8] ?_; (iterate 1 (refine tk1 (oi := ?_) (v := ?_) (by kernel_rfl) (by first | exact hSn | exact hHeld) ?_ ?_ ?_ ?_ ?_; rotate_left 2; (simp only [xgA, xgB, xgC]; rfl); rfl; (intro wS hSw; obtain ⟨S1, S2⟩ := hSw; go_simp; try with_reducible rfl); (exact fun _ _ _ h => h); (try simp only [Act.put, xgD, xgE, xgF]))); refine tkE ?_)
    (refine wpAnyU_one 9 (o := ?_) (by kernel_rfl) ?_ ?_; rotate_left 1; (simp only [xgA, xgB, xgC]; rfl); intro K hK)
    go_simp
    have hSn2 := hHeld.ext (he1.alloc (.cells zA 33))
    refine hK.out _ _ (fun _ => hSn2) ?_
    clear hK K
    (try simp only [Act.put, xgD, xgE, xgF])
    ((refine wpAnyU_one 10 (o := ?_) (by kernel_rfl) ?_ ?_; rotate_left 1; (simp only [xgA, xgB, xgC]; rfl); intro K hK); go_simp; (refine hK.out _ _ (fun h => absurd rfl h) ?_); clear hK K; refine wpAnyU_done (by kernel_rfl) ?_ _)
    go_wp2_with (fail)
    go_meet
    refine ⟨w1.heap.size, b2, a2, n2, p2, rfl, ?_, Blk.of_arr w1 #[.int .i64 (L0.tmod 7), .bool b2, .slice a2 n2 p2, .slice none 0 0] 33 4 rfl, ?_, ?_⟩
    ·exact (((Ext.refl _).drew).trans he1).size
    ·exact (hc.more (fun q hq => hq.imp id (fun e => by omega))).ext ((Ext.refl w1).alloc _)
    ·exact (((Ext.refl _).drew).trans he1).alloc _
   ·go_simp
    have hE9 : Ext ((w.alloc (.cells zA 33)).alloc (.cells #[.int .i8 L0, .int .i16 C0, .int .u8 K0] 202)).drew (((w.alloc (.cells zA 33)).alloc (.cells #[.int .i8 L0, .int .i16 C0, .int .u8 K0] 202)).drew.alloc (.cells zA 33)) := (Ext.refl _).alloc _
    have hB9 := Blk.of_arr ((w.alloc (.cells zA 33)).alloc (.cells #[.int .i8 L0, .int .i16 C0, .int .u8 K0] 202)).drew zA 33 4 rfl
    have hs9 : ((w.alloc (.cells zA 33)).alloc (.cells #[.int .i8 L0, .int .i16 C0, .int .u8 K0] 202)).drew.heap.size = w.heap.size + 1 + 1 := by show ((w.alloc (.cells zA 33)).alloc (.cells #[.int .i8 L0, .int .i16 C0, .int .u8 K0] 202)).heap.size = _; simp
    rw [hs9] at hB9
    have hSn := hHeld.ext hE9
    refine hK.out _ _ (fun _ => hSn) ?_
    clear hK K
    (try simp only [Act.put, xgD, xgE, xgF])
    (refine wpAnyU_one 7 (o := ?_) (by kernel_rfl) ?_ ?_; rotate_left 1; (simp only [xgA, xgB, xgC]; rfl); intro K hK)
    go_simp
    refine (int_of (M := fun q => Mx M w.heap.size (w.heap.size + 2) q ∨ q = w.heap.size + 1 + 1) C0 _ ?_ (by omega) (by omega)).mono ?_
    ·rintro q (hq | rfl)
     ·exact ((HMW.out.ext (Ext.refl _).drew).ext hE9) q hq
     ·exact hB9.lt
    rintro e w1 ⟨d0, d1, rfl, hc, he1⟩
    obtain ⟨b2, a2, n2, p2, rfl, rfl⟩ := hc.form
    go_wp2_with (fail)
    clear hSn
    have hSn := hHeld.ext (hE9.trans he1)
    refine hK.out _ _ (fun _ => hSn) ?_
    clear hK K
    (try simp only [Act.put, xgD, xgE, xgF])
    (refine tkB [8] ?_; (iterate 1 (refine tk1 (oi := ?_) (v := ?_) (by kernel_rfl) (by first | exact hSn | exact hHeld) ?_ ?_ ?_ ?_ ?_; rotate_left 2; (simp only [xgA, xgB, xgC]; rfl); rfl; (intro wS hSw; obtain ⟨S1, S2⟩ := hSw; go_simp; try with_reducible rfl); (exact fun _ _ _ h => h); (try simp only [Act.put, xgD, xgE, xgF]))); refine tkE ?_)
    have hB1 := hB9.ext he1
    have q0 := hB1.cell (i := 0) (by omega)
    have q1 := hB1.cell (i := 1) (by omega)
    have q2 := hB1.cell (i := 2) (by omega)
    have q3 := hB1.cell (i := 3) (by omega)
    have f0 := hB1.frozen 0
    have f1 := hB1.frozen 1
    have f2 := hB1.frozen 2
    have f3 := hB1.frozen 3
    simp only [arr] at q0 q1 q2 q3
    ((refine wpAnyU_one 10 (o := ?_) (by kernel_rfl) ?_ ?_; rotate_left 1; (simp only [xgA, xgB, xgC]; rfl); intro K hK); go_simp; (refine hK.out _ _ (fun h => absurd rfl h) ?_); clear hK K; refine wpAnyU_done (by kernel_rfl) ?_ _)
    go_wp2_with (fail)
    go_meet
    have hkp : Kp (fun q => Mx M w.heap.size (w.heap.size + 2) q ∨ q = w.heap.size + 1 + 1) w1 (set4 w1 (w.heap.size + 1 + 1) 0 (.int .i64 (L0.tmod 7)) (.bool b2) (.slice a2 n2 p2) (.slice none 0 0)) := Kp.set4 (.inr rfl) _ _ _ _ _
    refine ⟨w.heap.size + 1 + 1, b2, a2, n2, p2, rfl, by simp, (hB1.set4 0 (.int .i64 (L0.tmod 7)) (.bool b2) (.slice a2 n2 p2) (.slice none 0 0)).congr (fun i hi => ?_), hc.kp hkp, ?_⟩
    ·match i, hi with
     | 0, _ => rfl
     | 1, _ => rfl
     | 2, _ => rfl
     | 3, _ => rfl
    ·exact Ext.set4 ((((Ext.refl _).drew).trans hE9).trans he1) (by simp) _ _ _ _ _
  case rest =>
   obtain ⟨g8, b2, a2, n2, p2, rfl, hg8, hB8, hI8, hE8⟩ := hcut
   obtain ⟨kq, hkq, hkq4⟩ : ∃ kq : Nat, K0.tmod 5 = kq ∧ kq ≤ 4 := ⟨(K0 % 5).toNat, by rw [Int.tmod_eq_emod_of_nonneg hK1]; omega, by omega⟩
   have hg8' : w.heap.size + 2 ≤ g8 := by simpa using hg8
   have hBR1 := HBR.out.ext hE8
   have hBN1 := HBN.out.ext hE8
   have HE8 := Lib.hid (HEW.out.trans hE8)
   have hgl := hB8.lt
   have HST : Hid (BnI2 M w g8 wc.heap.size D (L0.tmod 7) C0 K0 L0 b2 a2 n2 p2 0 0 (.slice none 0 0) (.slice (some ⟨b, off, none⟩) 0 0) wc) := by
    refine ⟨fun _ => PE.z, fun _ => dfl (D + 1), 0, _, _, _, CntI.start _ _ _, hB8, Own.nil _ _ _ _ _, fun i hi => by omega, hI8.more (fun q hq => ?_), (((HNR.out off 0 (by simp) (by omega) (by omega)).more (M' := MQ M w g8 (.slice none 0 0)) (fun q hq => ?_)).ext HE8.out), hBR1, hBN1, HE8.out, Nat.le_refl _⟩
    ·rcases hq with hq | rfl | hq
     ·exact .inl (.inl hq)
     ·exact .inl (.inr rfl)
     ·cases hq
    ·rcases hq with hq | rfl | hq
     ·exact Mx.more (Nat.le_refl _) q hq
     ·exact .inr (by omega)
     ·cases hq
   clear hB8 hI8 hE8 hBR1 hBN1 hg8 HBR HBN HMW HSN hw1 hw2 x0 x1 x2
   have HKQ := Lib.hid hkq
   clear hkq
   go_wp2
   go_loopw [9, 7] (fun i rv wr => ∃ (k : Nat) (cv : Value), k ≤ kq ∧ i = .int .i64 k ∧ Hid (BnI2 M w g8 wc.heap.size D (L0.tmod 7) C0 K0 L0 b2 a2 n2 p2 k 0 cv rv wr)) (fun i _ _ => kq - (intOf i).toNat)
   case atStart => exact ⟨0, _, Nat.zero_le _, rfl, HST⟩
   case round =>
    clear HST
    obtain ⟨k, cv, hk, rfl, HST⟩ := hrel
    obtain ⟨xx, ts, n', L', C', K', hCN, hB8, hO, hRR, hI8, hNR, hBR, hBN, hEr, hBsz⟩ := HST.out
    obtain ⟨ra, rc, rfl⟩ := hNR.form
    obtain ⟨va, vc, rfl⟩ := hO.form
    have y2 := hBN.cell (i := 2) (by omega)
    simp only [arr] at y2
    have hnl := hBN.lt
    have hk5 : (K0.tmod 5) = (kq : Int) := HKQ.out
    by_cases hlt : k < kq
    ·have HMQ : Hid (Mb (MQ M w g8 (.slice va k vc)) wr) := by
      rintro q (hq | rfl | hq)
      ·exact Mx.mb hM hEr.size (by omega) q hq
      ·exact hB8.lt
      ·exact (hO.lt q hq).2
     have CTR := Lib.hid (HIH.out _ _ _ _ _ _ _ HMQ.out hNR)
     have HB8a := Lib.hid hB8
     have HOa := Lib.hid hO
     have HRRa := Lib.hid hRR
     have HI8a := Lib.hid hI8
     have HBRa := Lib.hid hBR
     have HBNa := Lib.hid hBN
     have HEra := Lib.hid hEr
     have HCNa := Lib.hid hCN
     clear hB8 hO hRR hI8 hNR hBR hBN hEr hCN
     go_wp2_with (fail)
     refine (CTR.out).mono ?_
     rintro e w4 ⟨x, u, n3, L3, C3, K3, t, hCt, rfl, hRt, hSt, hN3, he4⟩
     obtain ⟨ua, uc, rfl⟩ := hN3.form
     have hB8 := HB8a.out
     have hO := HOa.out
     have hRR := HRRa.out
     have hI8 := HI8a.out
     have hBR := HBRa.out
     have hBN := HBNa.out
     have hEr := HEra.out
     have HCN5 := Lib.hid (HCNa.out.next hCt)
     clear HB8a HOa HRRa HI8a HBRa HBNa HEra HCNa hCt
     have HOL : Hid (∀ q, (Value.slice va k vc).ownBlock = some q → wc.heap.size ≤ q ∧ q < wr.heap.size) := fun q hq => hO.lt q hq
     have hE5 : Ext wr ((w4.alloc (.cells (peA x) 33)).alloc (.cells (peA x) 33)) := (he4.alloc _).alloc _
     have hE45 : Ext w4 ((w4.alloc (.cells (peA x) 33)).alloc (.cells (peA x) 33)) := ((Ext.refl w4).alloc _).alloc _
     have hB4 := hB8.ext he4
     have z3 := hB4.cell (i := 3) (by omega)
     simp only [arr] at z3
     have hg4 := hB4.lt
     have hO5 := hO.ext hE5
     have hB5 := Blk.of_arr (w4.alloc (.cells (peA x) 33)) (peA x) 33 4 rfl
     simp only [World.size_alloc] at hB5
     have HONE := Lib.hid (pe_one x)
     have HB85 := Lib.hid (hB8.ext hE5)
     have HRR5 : Hid (∀ i, i < k → RR (MQ M w g8 (.slice va k vc)) ((w4.alloc (.cells (peA x) 33)).alloc (.cells (peA x) 33)) (D + 1) (ts i) (.int .i64 (xx i).lv) (.bool (xx i).b) (.slice (xx i).a (xx i).n (xx i).p) (.slice (xx i).ka (xx i).kn (xx i).kp) ∧ Sml (D + 1) (ts i)) := fun i hi => ⟨RR.ext (hRR i hi).1 hE5, (hRR i hi).2⟩
     have HI5 := Lib.hid (hI8.ext hE5)
     have HN5 := Lib.hid (hN3.ext hE45)
     have HRT5 := Lib.hid (RR.ext hRt hE45)
     have HBR5 := Lib.hid (hBR.ext hE5)
     have HBN5 := Lib.hid (hBN.ext hE5)
     have HEr5 := Lib.hid (hEr.trans hE5)
     have HSZ : Hid (wr.heap.size ≤ w4.heap.size) := he4.size
     have hszw := hEr.size
     have HSZC : Hid (wc.heap.size ≤ w4.heap.size) := Nat.le_trans hBsz he4.size
     clear hB8 hO hRR hI8 hBR hBN hEr hRt hN3 he4 hE5 hE45 hB4 hk5 y2
     go_wp2_with (at_builtin; refine wpList_append_fn _ rfl (.tmp 51) (.tmp 53) _ rfl wc.heap.size 33 i0 _ 4 64 Tryz.underlying24 hi hz0 hz1 hz2 rfl (by omega) (.slice va k vc) k (px xx) rfl hO5 (w4.heap.size + 1) 33 1 (arr (peA x)) rfl hB5 HONE.out ?p1 ?p2 ?p3 ?_)
     case p1 => unfold maxLen; omega
     case p2 => omega
     case p3 => have := HSZC.out; simp; omega
     intro gg cap2 w6 hO6 hg6 hat hlt6
     have hne8 : ∀ q, (Value.slice va k vc).ownBlock = some q → q ≠ g8 := fun q hq => by have := (HOL.out q hq).1; omega
     have hB86 := HB85.out.grown hg6 (fun e => hne8 g8 e.symm rfl)
     have z6 := hB86.cell (i := 3) (by omega)
     simp only [arr] at z6
     have zf := hB86.frozen 3
     have hg6l := hB86.lt
     have HF : Hid (BnI2 M w g8 wc.heap.size D (L0.tmod 7) C0 K0 L0 b2 a2 n2 p2 (k + 1) 0 (.slice (some ⟨gg, 0, none⟩) (k + 1) cap2) (.slice ua n3 uc) (w6.setCell ⟨g8, 3, none⟩ (.slice (some ⟨gg, 0, none⟩) (k + 1) cap2))) := by
      have hgg := hO6.lt gg rfl
      have hmore : ∀ q, (MQ M w g8 (.slice va k vc) q ∨ q = gg) → MQ M w g8 (.slice va k vc) q ∨ ((w4.alloc (.cells (peA x) 33)).alloc (.cells (peA x) 33)).heap.size ≤ q := by
       rintro q (hq | rfl)
       ·exact .inl hq
       ·rcases hat with h1 | h1
        ·exact .inl (.inr (.inr h1))
        ·exact .inr (by simp; omega)
      have hkp : Kp (fun q => MQ M w g8 (.slice va k vc) q ∨ q = gg) ((w4.alloc (.cells (peA x) 33)).alloc (.cells (peA x) 33)) (w6.setCell ⟨g8, 3, none⟩ (.slice (some ⟨gg, 0, none⟩) (k + 1) cap2)) := (Kp.grown hg6 fun q hq => .inl (.inr (.inr hq))).trans (Kp.set _ _ (p := ⟨g8, 3, none⟩) (.inl (.inr (.inl rfl))) _)
      have hless : ∀ q, MQ M w g8 (.slice (some ⟨gg, 0, none⟩) (k + 1) cap2) q → (MQ M w g8 (.slice va k vc) q ∨ q = gg) ∨ (w6.setCell ⟨g8, 3, none⟩ (.slice (some ⟨gg, 0, none⟩) (k + 1) cap2)).heap.size ≤ q := by
       rintro q (hq | rfl | hq)
       ·exact .inl (.inl (.inl hq))
       ·exact .inl (.inl (.inr (.inl rfl)))
       ·cases hq; exact .inl (.inr rfl)
      have hoth : ∀ q, q < w.heap.size + 2 → (w6.setCell ⟨g8, 3, none⟩ (.slice (some ⟨gg, 0, none⟩) (k + 1) cap2)).heap[q]? = ((w4.alloc (.cells (peA x) 33)).alloc (.cells (peA x) 33)).heap[q]? := fun q hq => by
       have h1 : q < ((w4.alloc (.cells (peA x) 33)).alloc (.cells (peA x) 33)).heap.size := by have := HSZC.out; simp; omega
       rw [Below.heap_setCell _ _ _ _ (show q ≠ g8 by omega), hg6.block q h1 (fun e => by have := (HOL.out q e.symm).1; omega)]
      refine ⟨snoc xx k x, snoc ts k t, n3, L3, C3, K3, HCN5.out.congr (fun i hi => by
       by_cases hik : i = k
       ·subst hik; rw [snoc_at, snoc_at]
       ·rw [snoc_lt _ _ _ _ (by omega), snoc_lt _ _ _ _ (by omega)]), (hB86.set 3 _).congr (fun i hi => ?_), (hO6.congr fun j' hj' => px_app xx k x j' hj').of_heap (fun q hq => ?_), fun i hi => ?_, ((HI5.out.more hmore).kp hkp).more hless, ((HN5.out.more hmore).kp hkp).more hless, HBR5.out.of_heap (hoth _ (by omega)), HBN5.out.of_heap (hoth _ (by omega)), ?_, ?_⟩
      ·match i, hi with
       | 0, _ => rfl
       | 1, _ => rfl
       | 2, _ => rfl
       | 3, _ => rfl
      ·cases hq
       exact Below.heap_setCell _ _ _ _ (show gg ≠ g8 by omega)
      ·by_cases hik : i = k
       ·subst hik
        rw [snoc_at, snoc_at]
        exact ⟨RR.more hless (RR.kp hkp (RR.more hmore HRT5.out)), hSt⟩
       ·rw [snoc_lt _ _ _ _ (by omega), snoc_lt _ _ _ _ (by omega)]
        obtain ⟨h1, h2⟩ := HRR5.out i (by omega)
        exact ⟨RR.more hless (RR.kp hkp (RR.more hmore h1)), h2⟩
      ·exact ((HEr5.out).grown hg6 (fun q hq => by have := (HOL.out q hq).1; omega)).set (p := ⟨g8, 3, none⟩) (by show w.heap.size ≤ g8; omega) _
      ·have h1 := hg6.size
       have h2 := HSZC.out
       simp only [World.size_alloc] at h1
       simp [World.setCell]; omega
     clear hO6 hg6 hat hO5 hB5 hB86
     go_wp2
     go_roundw
     case rel => exact ⟨k + 1, _, by omega, by go_num, HF⟩
     case measure => simp [intOf]; omega
    ·have hkk : k = kq := by omega
     subst hkk
     have w0 := hB8.cell (i := 0) (by omega)
     have w1 := hB8.cell (i := 1) (by omega)
     have w2 := hB8.cell (i := 2) (by omega)
     have w3 := hB8.cell (i := 3) (by omega)
     simp only [arr] at w0 w1 w2 w3
     have hgw := hB8.lt
     have hr0 := hBR.cell (i := 0) (by omega)
     have hr1 := hBR.cell (i := 1) (by omega)
     have hr2 := hBR.cell (i := 2) (by omega)
     have hr3 := hBR.cell (i := 3) (by omega)
     simp only [arr] at hr0 hr1 hr2 hr3
     have hf0 := hBR.frozen 0
     have hf1 := hBR.frozen 1
     have hf2 := hBR.frozen 2
     have hf3 := hBR.frozen 3
     obtain ⟨⟨_, _, _, _⟩, _, ⟨r0, r1, r2, r3⟩, hkp, hEf⟩ := fin4 (M' := MQ M w g8 (.slice va k vc)) (w := w) (.int .i64 (L0.tmod 7)) (.bool b2) (.slice a2 n2 p2) (.slice va k vc) hBR (.inl (Mx.at (by omega))) (Nat.le_refl _) hEr
     have HF : Hid (BnPost2 M w (D + 1) (0 + 1) (.returned (.tuple #[.agg #[.int .i64 (L0.tmod 7), .bool b2, .slice a2 n2 p2, .slice va k vc], .slice ra n' rc])) (set4 wr w.heap.size 0 (.int .i64 (L0.tmod 7)) (.bool b2) (.slice a2 n2 p2) (.slice va k vc))) := by
      obtain ⟨rw_, hr, hv, hc⟩ := (hI8.kp hkp).raw
      have hsub : ∀ q, M q → MQ M w g8 (.slice va k vc) q ∨ (set4 wr w.heap.size 0 (.int .i64 (L0.tmod 7)) (.bool b2) (.slice a2 n2 p2) (.slice va k vc)).heap.size ≤ q := fun q hq => .inl (.inl (.inl hq))
      refine ⟨⟨L0.tmod 7, b2, a2, n2, p2, va, k, vc⟩, _, n', L', C', K', mkT (D + 1) (L0.tmod 7) rw_ k ts, hCN.node, rfl, ⟨rfl, by show -9223372036854775808 ≤ L0.tmod 7 ∧ L0.tmod 7 ≤ 9223372036854775807; omega, hr.more hsub, by show k ≤ _; omega, ?_⟩, ?_, (hNR.kp hkp).more hsub, hEf⟩
      ·rcases hO with ⟨h1, h2⟩ | ⟨g, cp, F, h1, hg, hB, hc2, hm2, hF⟩
       ·exact .inl ⟨⟨none, 0, h1, Nat.zero_le _, fun _ => rfl⟩, h2⟩
       ·refine .inr ⟨g, 0, cp, h1, hc2, hm2, ⟨?_, ?_⟩, fun i hi => ?_⟩
        ·rw [size_set4]; exact hB.lt
        ·intro hm
         have := hM g hm
         omega
        ·have hBs := hB.of_heap (heap_set4 wr w.heap.size 0 (.int .i64 (L0.tmod 7)) (.bool b2) (.slice a2 n2 p2) (.slice va k vc) g (by omega))
         have hi' : i < k := hi
         refine ⟨_, _, _, _, ?_, ?_, ?_, ?_, RR.more hsub (RR.kp hkp (hRR i hi').1)⟩
         ·rw [Nat.zero_add, hBs.cell (by omega), hF _ (by omega), px0]
         ·rw [Nat.zero_add, hBs.cell (by omega), hF _ (by omega), px1]
         ·rw [Nat.zero_add, hBs.cell (by omega), hF _ (by omega), px2]
         ·rw [Nat.zero_add, hBs.cell (by omega), hF _ (by omega), px3]
      ·by_cases hlv : 1 ≤ L0.tmod 7 ∧ L0.tmod 7 ≤ 4
       ·exact sml_node (D + 1) _ _ _ _ hlv hkq4 fun i hi => (hRR i hi).2
       ·exact sml_const (D + 1) _ _ _ _ (by omega) (by rw [hv]; omega)
     unfold set4 at r0 r1 r2 r3
     have R0 := Lib.hid r0
     have R1 := Lib.hid r1
     have R2 := Lib.hid r2
     have R3 := Lib.hid r3
     have hws : w.heap.size < wr.heap.size := hBR.lt
     clear hO hRR hI8 hNR hB8 hBR hBN hEr hkp hEf hCN r0 r1 r2 r3
     go_wp2
     exact bodyPost_ret (v := .tuple #[.agg #[.int .i64 (L0.tmod 7), .bool b2, .slice a2 n2 p2, .slice va k vc], .slice ra n' rc]) (by simp [results, Tryz.results110, go_sem, R0.out, R1.out, R2.out, R3.out]) rfl HF.out
 ·have hw1 : IntKind.i64.wrap (L0.tmod 7) = L0.tmod 7 := IntWalk.i64_in _ (by omega)
  have hw2 : IntKind.i64.wrap C0 = C0 := IntWalk.i64_in _ (by omega)
  go_enter Tryz.func110, Tryz.ntmps110
  go_wp2
  go_cut [8] (BnS (Mx M w.heap.size (w.heap.size + 2)) ((w.alloc (.cells zA 33)).alloc (.cells #[.int .i8 L0, .int .i16 C0, .int .u8 K0] 202)) (L0.tmod 7) C0)
  case first =>
   refine wp_region_u (SNode (w.heap.size + 1) L0 C0) 10 (by kernel_rfl) HSN.out (fun hHeld => ?_)
   (refine tkB [0, 1, 2, 3, 4, 5, 6] ?_; (iterate 7 (refine tk1 (oi := ?_) (v := ?_) (by kernel_rfl) (by first | exact hSn | exact hHeld) ?_ ?_ ?_ ?_ ?_; rotate_left 2; (simp only [xgA, xgB, xgC]; rfl); rfl; (intro wS hSw; obtain ⟨S1, S2⟩ := hSw; go_simp; try with_reducible rfl); (exact fun _ _ _ h => h); (try simp only [Act.put, xgD, xgE, xgF]))); refine tkE ?_)
   (refine wpAnyU_two 7 9 (oi := ?_) (oj := ?_) (by kernel_rfl) ?_ ?_ ?_ ?_; rotate_left 2; (simp only [xgA, xgB, xgC]; rfl); (simp only [xgA, xgB, xgC]; rfl); all_goals intro K hK)
   ·go_simp
    refine (int_of (M := Mx M w.heap.size (w.heap.size + 2)) C0 _ (HMW.out.ext (Ext.refl _).drew) (by omega) (by omega)).mono ?_
    rintro e w1 ⟨d0, d1, rfl, hc, he1⟩
    obtain ⟨b2, a2, n2, p2, rfl, rfl⟩ := hc.form
    go_wp2_with (fail)
    have hSn := hHeld.ext he1
    refine hK.out _ _ (fun _ => hSn) ?_
    clear hK K
    (try simp only [Act.put, xgD, xgE, xgF])
    (refine tkB [8] ?_; (iterate 1 (refine tk1 (oi := ?_) (v := ?_) (by kernel_rfl) (by first | exact hSn | exact hHeld) ?_ ?_ ?_ ?_ ?_; rotate_left 2; (simp only [xgA, xgB, xgC]; rfl); rfl; (intro wS hSw; obtain ⟨S1, S2⟩ := hSw; go_simp; try with_reducible rfl); (exact fun _ _ _ h => h); (try simp only [Act.put, xgD, xgE, xgF]))); refine tkE ?_)
    (refine wpAnyU_one 9 (o := ?_) (by kernel_rfl) ?_ ?_; rotate_left 1; (simp only [xgA, xgB, xgC]; rfl); intro K hK)
    go_simp
    have hSn2 := hHeld.ext (he1.alloc (.cells zA 33))
    refine hK.out _ _ (fun _ => hSn2) ?_
    clear hK K
    (try simp only [Act.put, xgD, xgE, xgF])
    ((refine wpAnyU_one 10 (o := ?_) (by kernel_rfl) ?_ ?_; rotate_left 1; (simp only [xgA, xgB, xgC]; rfl); intro K hK); go_simp; (refine hK.out _ _ (fun h => absurd rfl h) ?_); clear hK K; refine wpAnyU_done (by kernel_rfl) ?_ _)
    go_wp2_with (fail)
    go_meet
    refine ⟨w1.heap.size, b2, a2, n2, p2, rfl, ?_, Blk.of_arr w1 #[.int .i64 (L0.tmod 7), .bool b2, .slice a2 n2 p2, .slice none 0 0] 33 4 rfl, ?_, ?_⟩
    ·exact (((Ext.refl _).drew).trans he1).size
    ·exact (hc.more (fun q hq => hq.imp id (fun e => by omega))).ext ((Ext.refl w1).alloc _)
    ·exact (((Ext.refl _).drew).trans he1).alloc _
   ·go_simp
    have hE9 : Ext ((w.alloc (.cells zA 33)).alloc (.cells #[.int .i8 L0, .int .i16 C0, .int .u8 K0] 202)).drew (((w.alloc (.cells zA 33)).alloc (.cells #[.int .i8 L0, .int .i16 C0, .int .u8 K0] 202)).drew.alloc (.cells zA 33)) := (Ext.refl _).alloc _
    have hB9 := Blk.of_arr ((w.alloc (.cells zA 33)).alloc (.cells #[.int .i8 L0, .int .i16 C0, .int .u8 K0] 202)).drew zA 33 4 rfl
    have hs9 : ((w.alloc (.cells zA 33)).alloc (.cells #[.int .i8 L0, .int .i16 C0, .int .u8 K0] 202)).drew.heap.size = w.heap.size + 1 + 1 := by show ((w.alloc (.cells zA 33)).alloc (.cells #[.int .i8 L0, .int .i16 C0, .int .u8 K0] 202)).heap.size = _; simp
    rw [hs9] at hB9
    have hSn := hHeld.ext hE9
    refine hK.out _ _ (fun _ => hSn) ?_
    clear hK K
    (try simp only [Act.put, xgD, xgE, xgF])
    (refine wpAnyU_one 7 (o := ?_) (by kernel_rfl) ?_ ?_; rotate_left 1; (simp only [xgA, xgB, xgC]; rfl); intro K hK)
    go_simp
    refine (int_of (M := fun q => Mx M w.heap.size (w.heap.size + 2) q ∨ q = w.heap.size + 1 + 1) C0 _ ?_ (by omega) (by omega)).mono ?_
    ·rintro q (hq | rfl)
     ·exact ((HMW.out.ext (Ext.refl _).drew).ext hE9) q hq
     ·exact hB9.lt
    rintro e w1 ⟨d0, d1, rfl, hc, he1⟩
    obtain ⟨b2, a2, n2, p2, rfl, rfl⟩ := hc.form
    go_wp2_with (fail)
    clear hSn
    have hSn := hHeld.ext (hE9.trans he1)
    refine hK.out _ _ (fun _ => hSn) ?_
    clear hK K
    (try simp only [Act.put, xgD, xgE, xgF])
    (refine tkB [8] ?_; (iterate 1 (refine tk1 (oi := ?_) (v := ?_) (by kernel_rfl) (by first | exact hSn | exact hHeld) ?_ ?_ ?_ ?_ ?_; rotate_left 2; (simp only [xgA, xgB, xgC]; rfl); rfl; (intro wS hSw; obtain ⟨S1, S2⟩ := hSw; go_simp; try with_reducible rfl); (exact fun _ _ _ h => h); (try simp only [Act.put, xgD, xgE, xgF]))); refine tkE ?_)
    have hB1 := hB9.ext he1
    have q0 := hB1.cell (i := 0) (by omega)
    have q1 := hB1.cell (i := 1) (by omega)
    have q2 := hB1.cell (i := 2) (by omega)
    have q3 := hB1.cell (i := 3) (by omega)
    have f0 := hB1.frozen 0
    have f1 := hB1.frozen 1
    have f2 := hB1.frozen 2
    have f3 := hB1.frozen 3
    simp only [arr] at q0 q1 q2 q3
    ((refine wpAnyU_one 10 (o := ?_) (by kernel_rfl) ?_ ?_; rotate_left 1; (simp only [xgA, xgB, xgC]; rfl); intro K hK); go_simp; (refine hK.out _ _ (fun h => absurd rfl h) ?_); clear hK K; refine wpAnyU_done (by kernel_rfl) ?_ _)
    go_wp2_with (fail)
    go_meet
    have hkp : Kp (fun q => Mx M w.heap.size (w.heap.size + 2) q ∨ q = w.heap.size + 1 + 1) w1 (set4 w1 (w.heap.size + 1 + 1) 0 (.int .i64 (L0.tmod 7)) (.bool b2) (.slice a2 n2 p2) (.slice none 0 0)) := Kp.set4 (.inr rfl) _ _ _ _ _
    refine ⟨w.heap.size + 1 + 1, b2, a2, n2, p2, rfl, by simp, (hB1.set4 0 (.int .i64 (L0.tmod 7)) (.bool b2) (.slice a2 n2 p2) (.slice none 0 0)).congr (fun i hi => ?_), hc.kp hkp, ?_⟩
    ·match i, hi with
     | 0, _ => rfl
     | 1, _ => rfl
     | 2, _ => rfl
     | 3, _ => rfl
    ·exact Ext.set4 ((((Ext.refl _).drew).trans hE9).trans he1) (by simp) _ _ _ _ _
  case rest =>
   obtain ⟨g8, b2, a2, n2, p2, rfl, hg8, hB8, hI8, hE8⟩ := hcut
   obtain ⟨kq, hkq, hkq4⟩ : ∃ kq : Nat, K0.tmod 5 = kq ∧ kq ≤ 4 := ⟨(K0 % 5).toNat, by rw [Int.tmod_eq_emod_of_nonneg hK1]; omega, by omega⟩
   have hg8' : w.heap.size + 2 ≤ g8 := by simpa using hg8
   have hBR1 := HBR.out.ext hE8
   have hBN1 := HBN.out.ext hE8
   have HE8 := Lib.hid (HEW.out.trans hE8)
   have hgl := hB8.lt
   have HST : Hid (BnI2 M w g8 wc.heap.size D (L0.tmod 7) C0 K0 L0 b2 a2 n2 p2 0 n1 (.slice none 0 0) (.slice (some ⟨b, off + 3, none⟩) n1 (cap - 1)) wc) := by
    refine ⟨fun _ => PE.z, fun _ => dfl (D + 1), n1, _, _, _, CntI.start _ _ _, hB8, Own.nil _ _ _ _ _, fun i hi => by omega, hI8.more (fun q hq => ?_), (((HNR.out (off + 3) (cap - 1) (.inr rfl) (by omega) (by omega)).more (M' := MQ M w g8 (.slice none 0 0)) (fun q hq => ?_)).ext HE8.out), hBR1, hBN1, HE8.out, Nat.le_refl _⟩
    ·rcases hq with hq | rfl | hq
     ·exact .inl (.inl hq)
     ·exact .inl (.inr rfl)
     ·cases hq
    ·rcases hq with hq | rfl | hq
     ·exact Mx.more (Nat.le_refl _) q hq
     ·exact .inr (by omega)
     ·cases hq
   clear hB8 hI8 hE8 hBR1 hBN1 hg8 HBR HBN HMW HSN hw1 hw2 x0 x1 x2
   have HKQ := Lib.hid hkq
   clear hkq
   go_wp2
   go_loopw [9, 7] (fun i rv wr => ∃ (k : Nat) (cv : Value), k ≤ kq ∧ i = .int .i64 k ∧ Hid (BnI2 M w g8 wc.heap.size D (L0.tmod 7) C0 K0 L0 b2 a2 n2 p2 k n1 cv rv wr)) (fun i _ _ => kq - (intOf i).toNat)
   case atStart => exact ⟨0, _, Nat.zero_le _, rfl, HST⟩
   case round =>
    clear HST
    obtain ⟨k, cv, hk, rfl, HST⟩ := hrel
    obtain ⟨xx, ts, n', L', C', K', hCN, hB8, hO, hRR, hI8, hNR, hBR, hBN, hEr, hBsz⟩ := HST.out
    obtain ⟨ra, rc, rfl⟩ := hNR.form
    obtain ⟨va, vc, rfl⟩ := hO.form
    have y2 := hBN.cell (i := 2) (by omega)
    simp only [arr] at y2
    have hnl := hBN.lt
    have hk5 : (K0.tmod 5) = (kq : Int) := HKQ.out
    by_cases hlt : k < kq
    ·have HMQ : Hid (Mb (MQ M w g8 (.slice va k vc)) wr) := by
      rintro q (hq | rfl | hq)
      ·exact Mx.mb hM hEr.size (by omega) q hq
      ·exact hB8.lt
      ·exact (hO.lt q hq).2
     have CTR := Lib.hid (HIH.out _ _ _ _ _ _ _ HMQ.out hNR)
     have HB8a := Lib.hid hB8
     have HOa := Lib.hid hO
     have HRRa := Lib.hid hRR
     have HI8a := Lib.hid hI8
     have HBRa := Lib.hid hBR
     have HBNa := Lib.hid hBN
     have HEra := Lib.hid hEr
     have HCNa := Lib.hid hCN
     clear hB8 hO hRR hI8 hNR hBR hBN hEr hCN
     go_wp2_with (fail)
     refine (CTR.out).mono ?_
     rintro e w4 ⟨x, u, n3, L3, C3, K3, t, hCt, rfl, hRt, hSt, hN3, he4⟩
     obtain ⟨ua, uc, rfl⟩ := hN3.form
     have hB8 := HB8a.out
     have hO := HOa.out
     have hRR := HRRa.out
     have hI8 := HI8a.out
     have hBR := HBRa.out
     have hBN := HBNa.out
     have hEr := HEra.out
     have HCN5 := Lib.hid (HCNa.out.next hCt)
     clear HB8a HOa HRRa HI8a HBRa HBNa HEra HCNa hCt
     have HOL : Hid (∀ q, (Value.slice va k vc).ownBlock = some q → wc.heap.size ≤ q ∧ q < wr.heap.size) := fun q hq => hO.lt q hq
     have hE5 : Ext wr ((w4.alloc (.cells (peA x) 33)).alloc (.cells (peA x) 33)) := (he4.alloc _).alloc _
     have hE45 : Ext w4 ((w4.alloc (.cells (peA x) 33)).alloc (.cells (peA x) 33)) := ((Ext.refl w4).alloc _).alloc _
     have hB4 := hB8.ext he4
     have z3 := hB4.cell (i := 3) (by omega)
     simp only [arr] at z3
     have hg4 := hB4.lt
     have hO5 := hO.ext hE5
     have hB5 := Blk.of_arr (w4.alloc (.cells (peA x) 33)) (peA x) 33 4 rfl
     simp only [World.size_alloc] at hB5
     have HONE := Lib.hid (pe_one x)
     have HB85 := Lib.hid (hB8.ext hE5)
     have HRR5 : Hid (∀ i, i < k → RR (MQ M w g8 (.slice va k vc)) ((w4.alloc (.cells (peA x) 33)).alloc (.cells (peA x) 33)) (D + 1) (ts i) (.int .i64 (xx i).lv) (.bool (xx i).b) (.slice (xx i).a (xx i).n (xx i).p) (.slice (xx i).ka (xx i).kn (xx i).kp) ∧ Sml (D + 1) (ts i)) := fun i hi => ⟨RR.ext (hRR i hi).1 hE5, (hRR i hi).2⟩
     have HI5 := Lib.hid (hI8.ext hE5)
     have HN5 := Lib.hid (hN3.ext hE45)
     have HRT5 := Lib.hid (RR.ext hRt hE45)
     have HBR5 := Lib.hid (hBR.ext hE5)
     have HBN5 := Lib.hid (hBN.ext hE5)
     have HEr5 := Lib.hid (hEr.trans hE5)
     have HSZ : Hid (wr.heap.size ≤ w4.heap.size) := he4.size
     have hszw := hEr.size
     have HSZC : Hid (wc.heap.size ≤ w4.heap.size) := Nat.le_trans hBsz he4.size
     clear hB8 hO hRR hI8 hBR hBN hEr hRt hN3 he4 hE5 hE45 hB4 hk5 y2
     go_wp2_with (at_builtin; refine wpList_append_fn _ rfl (.tmp 51) (.tmp 53) _ rfl wc.heap.size 33 i0 _ 4 64 Tryz.underlying24 hi hz0 hz1 hz2 rfl (by omega) (.slice va k vc) k (px xx) rfl hO5 (w4.heap.size + 1) 33 1 (arr (peA x)) rfl hB5 HONE.out ?p1 ?p2 ?p3 ?_)
     case p1 => unfold maxLen; omega
     case p2 => omega
     case p3 => have := HSZC.out; simp; omega
     intro gg cap2 w6 hO6 hg6 hat hlt6
     have hne8 : ∀ q, (Value.slice va k vc).ownBlock = some q → q ≠ g8 := fun q hq => by have := (HOL.out q hq).1; omega
     have hB86 := HB85.out.grown hg6 (fun e => hne8 g8 e.symm rfl)
     have z6 := hB86.cell (i := 3) (by omega)
     simp only [arr] at z6
     have zf := hB86.frozen 3
     have hg6l := hB86.lt
     have HF : Hid (BnI2 M w g8 wc.heap.size D (L0.tmod 7) C0 K0 L0 b2 a2 n2 p2 (k + 1) n1 (.slice (some ⟨gg, 0, none⟩) (k + 1) cap2) (.slice ua n3 uc) (w6.setCell ⟨g8, 3, none⟩ (.slice (some ⟨gg, 0, none⟩) (k + 1) cap2))) := by
      have hgg := hO6.lt gg rfl
      have hmore : ∀ q, (MQ M w g8 (.slice va k vc) q ∨ q = gg) → MQ M w g8 (.slice va k vc) q ∨ ((w4.alloc (.cells (peA x) 33)).alloc (.cells (peA x) 33)).heap.size ≤ q := by
       rintro q (hq | rfl)
       ·exact .inl hq
       ·rcases hat with h1 | h1
        ·exact .inl (.inr (.inr h1))
        ·exact .inr (by simp; omega)
      have hkp : Kp (fun q => MQ M w g8 (.slice va k vc) q ∨ q = gg) ((w4.alloc (.cells (peA x) 33)).alloc (.cells (peA x) 33)) (w6.setCell ⟨g8, 3, none⟩ (.slice (some ⟨gg, 0, none⟩) (k + 1) cap2)) := (Kp.grown hg6 fun q hq => .inl (.inr (.inr hq))).trans (Kp.set _ _ (p := ⟨g8, 3, none⟩) (.inl (.inr (.inl rfl))) _)
      have hless : ∀ q, MQ M w g8 (.slice (some ⟨gg, 0, none⟩) (k + 1) cap2) q → (MQ M w g8 (.slice va k vc) q ∨ q = gg) ∨ (w6.setCell ⟨g8, 3, none⟩ (.slice (some ⟨gg, 0, none⟩) (k + 1) cap2)).heap.size ≤ q := by
       rintro q (hq | rfl | hq)
       ·exact .inl (.inl (.inl hq))
       ·exact .inl (.inl (.inr (.inl rfl)))
       ·cases hq; exact .inl (.inr rfl)
      have hoth : ∀ q, q < w.heap.size + 2 → (w6.setCell ⟨g8, 3, none⟩ (.slice (some ⟨gg, 0, none⟩) (k + 1) cap2)).heap[q]? = ((w4.alloc (.cells (peA x) 33)).alloc (.cells (peA x) 33)).heap[q]? := fun q hq => by
       have h1 : q < ((w4.alloc (.cells (peA x) 33)).alloc (.cells (peA x) 33)).heap.size := by have := HSZC.out; simp; omega
       rw [Below.heap_setCell _ _ _ _ (show q ≠ g8 by omega), hg6.block q h1 (fun e => by have := (HOL.out q e.symm).1; omega)]
      refine ⟨snoc xx k x, snoc ts k t, n3, L3, C3, K3, HCN5.out.congr (fun i hi => by
       by_cases hik : i = k
       ·subst hik; rw [snoc_at, snoc_at]
       ·rw [snoc_lt _ _ _ _ (by omega), snoc_lt _ _ _ _ (by omega)]), (hB86.set 3 _).congr (fun i hi => ?_), (hO6.congr fun j' hj' => px_app xx k x j' hj').of_heap (fun q hq => ?_), fun i hi => ?_, ((HI5.out.more hmore).kp hkp).more hless, ((HN5.out.more hmore).kp hkp).more hless, HBR5.out.of_heap (hoth _ (by omega)), HBN5.out.of_heap (hoth _ (by omega)), ?_, ?_⟩
      ·match i, hi with
       | 0, _ => rfl
       | 1, _ => rfl
       | 2, _ => rfl
       | 3, _ => rfl
      ·cases hq
       exact Below.heap_setCell _ _ _ _ (show gg ≠ g8 by omega)
      ·by_cases hik : i = k
       ·subst hik
        rw [snoc_at, snoc_at]
        exact ⟨RR.more hless (RR.kp hkp (RR.more hmore HRT5.out)), hSt⟩
       ·rw [snoc_lt _ _ _ _ (by omega), snoc_lt _ _ _ _ (by omega)]
        obtain ⟨h1, h2⟩ := HRR5.out i (by omega)
        exact ⟨RR.more hless (RR.kp hkp (RR.more hmore h1)), h2⟩
      ·exact ((HEr5.out).grown hg6 (fun q hq => by have := (HOL.out q hq).1; omega)).set (p := ⟨g8, 3, none⟩) (by show w.heap.size ≤ g8; omega) _
      ·have h1 := hg6.size
       have h2 := HSZC.out
       simp only [World.size_alloc] at h1
       simp [World.setCell]; omega
     clear hO6 hg6 hat hO5 hB5 hB86
     go_wp2
     go_roundw
     case rel => exact ⟨k + 1, _, by omega, by go_num, HF⟩
     case measure => simp [intOf]; omega
    ·have hkk : k = kq := by omega
     subst hkk
     have w0 := hB8.cell (i := 0) (by omega)
     have w1 := hB8.cell (i := 1) (by omega)
     have w2 := hB8.cell (i := 2) (by omega)
     have w3 := hB8.cell (i := 3) (by omega)
     simp only [arr] at w0 w1 w2 w3
     have hgw := hB8.lt
     have hr0 := hBR.cell (i := 0) (by omega)
     have hr1 := hBR.cell (i := 1) (by omega)
     have hr2 := hBR.cell (i := 2) (by omega)
     have hr3 := hBR.cell (i := 3) (by omega)
     simp only [arr] at hr0 hr1 hr2 hr3
     have hf0 := hBR.frozen 0
     have hf1 := hBR.frozen 1
     have hf2 := hBR.frozen 2
     have hf3 := hBR.frozen 3
     obtain ⟨⟨_, _, _, _⟩, _, ⟨r0, r1, r2, r3⟩, hkp, hEf⟩ := fin4 (M' := MQ M w g8 (.slice va k vc)) (w := w) (.int .i64 (L0.tmod 7)) (.bool b2) (.slice a2 n2 p2) (.slice va k vc) hBR (.inl (Mx.at (by omega))) (Nat.le_refl _) hEr
     have HF : Hid (BnPost2 M w (D + 1) (n1 + 1) (.returned (.tuple #[.agg #[.int .i64 (L0.tmod 7), .bool b2, .slice a2 n2 p2, .slice va k vc], .slice ra n' rc])) (set4 wr w.heap.size 0 (.int .i64 (L0.tmod 7)) (.bool b2) (.slice a2 n2 p2) (.slice va k vc))) := by
      obtain ⟨rw_, hr, hv, hc⟩ := (hI8.kp hkp).raw
      have hsub : ∀ q, M q → MQ M w g8 (.slice va k vc) q ∨ (set4 wr w.heap.size 0 (.int .i64 (L0.tmod 7)) (.bool b2) (.slice a2 n2 p2) (.slice va k vc)).heap.size ≤ q := fun q hq => .inl (.inl (.inl hq))
      refine ⟨⟨L0.tmod 7, b2, a2, n2, p2, va, k, vc⟩, _, n', L', C', K', mkT (D + 1) (L0.tmod 7) rw_ k ts, hCN.node, rfl, ⟨rfl, by show -9223372036854775808 ≤ L0.tmod 7 ∧ L0.tmod 7 ≤ 9223372036854775807; omega, hr.more hsub, by show k ≤ _; omega, ?_⟩, ?_, (hNR.kp hkp).more hsub, hEf⟩
      ·rcases hO with ⟨h1, h2⟩ | ⟨g, cp, F, h1, hg, hB, hc2, hm2, hF⟩
       ·exact .inl ⟨⟨none, 0, h1, Nat.zero_le _, fun _ => rfl⟩, h2⟩
       ·refine .inr ⟨g, 0, cp, h1, hc2, hm2, ⟨?_, ?_⟩, fun i hi => ?_⟩
        ·rw [size_set4]; exact hB.lt
        ·intro hm
         have := hM g hm
         omega
        ·have hBs := hB.of_heap (heap_set4 wr w.heap.size 0 (.int .i64 (L0.tmod 7)) (.bool b2) (.slice a2 n2 p2) (.slice va k vc) g (by omega))
         have hi' : i < k := hi
         refine ⟨_, _, _, _, ?_, ?_, ?_, ?_, RR.more hsub (RR.kp hkp (hRR i hi').1)⟩
         ·rw [Nat.zero_add, hBs.cell (by omega), hF _ (by omega), px0]
         ·rw [Nat.zero_add, hBs.cell (by omega), hF _ (by omega), px1]
         ·rw [Nat.zero_add, hBs.cell (by omega), hF _ (by omega), px2]
         ·rw [Nat.zero_add, hBs.cell (by omega), hF _ (by omega), px3]
      ·by_cases hlv : 1 ≤ L0.tmod 7 ∧ L0.tmod 7 ≤ 4
       ·exact sml_node (D + 1) _ _ _ _ hlv hkq4 fun i hi => (hRR i hi).2
       ·exact sml_const (D + 1) _ _ _ _ (by omega) (by rw [hv]; omega)
     unfold set4 at r0 r1 r2 r3
     have R0 := Lib.hid r0
     have R1 := Lib.hid r1
     have R2 := Lib.hid r2
     have R3 := Lib.hid r3
     have hws : w.heap.size < wr.heap.size := hBR.lt
     clear hO hRR hI8 hNR hB8 hBR hBN hEr hkp hEf hCN r0 r1 r2 r3
     go_wp2
     exact bodyPost_ret (v := .tuple #[.agg #[.int .i64 (L0.tmod 7), .bool b2, .slice a2 n2 p2, .slice va k vc], .slice ra n' rc]) (by simp [results, Tryz.results110, go_sem, R0.out, R1.out, R2.out, R3.out]) rfl HF.out
theorem rf_bn2 : ∀ D, D ≤ 100 → BnCtr2 D
 | 0, _ => fun M v n L C K w _ h => bn_zero2 0 M v n L C K w h (.inr rfl)
 | D + 1, hD => fun M v n L C K w hM h => by
  by_cases h0 : n = 0
  ·exact bn_zero2 (D + 1) M v n L C K w h (.inl h0)
  ·have e : ((D + 1 : Nat) : Int) = (D : Int) + 1 := by omega
   rw [e]
   exact bn_walk2 D (rf_bn2 D (by omega)) M v n L C K w hM h h0 (by omega)
def BT2 (n : Nat) (M : Nat → Prop) (w : World) (x : PE) (l : List Tm) : Prop := BT M w x l ∧ CnL n l
set_option maxRecDepth 100000 in
set_option maxHeartbeats 4000000 in
theorem rf_build2 (M : Nat → Prop) (v : Value) (n : Nat) (L C K : Nat → Int) (w : World) (hM : Mb M w) (h : NodesR M w v n L C K) : Calls Tryz.prog 35 #[v] w fun e w' => ∃ x l, e = .returned (.agg (peA x)) ∧ BT2 n M w' x l ∧ Ext w w' := by
 have hE : Ext w (w.alloc (.cells zA 33)) := (Ext.refl w).alloc _
 have hB := Blk.of_arr w zA 33 4 rfl
 have hM2 : Mb (Mx M w.heap.size (w.heap.size + 1)) (w.alloc (.cells zA 33)) := Mx.mb hM (by simp) (by simp)
 have h2 := (h.more (M' := Mx M w.heap.size (w.heap.size + 1)) (Mx.more (Nat.le_refl _))).ext hE
 have ctr := rf_bn2 6 (by omega) _ v n L C K _ hM2 h2
 rw [show ((6 : Nat) : Int) = 6 from rfl] at ctr
 have CTR := Lib.hid ctr
 clear ctr
 go_enter Tryz.func35, Tryz.ntmps35
 go_wp2_with (fail)
 refine (CTR.out).mono ?_
 rintro e w1 ⟨x, u, n', L', C', K', t, hCt, rfl, hR, hS, hNN, he1⟩
 obtain ⟨ua, uc, rfl⟩ := hNN.form
 clear hNN
 have he2 : Ext w1 (w1.alloc (.cells #[.int .i64 x.lv, .bool x.b, .slice x.a x.n x.p, .slice x.ka x.kn x.kp] 33)) := (Ext.refl w1).alloc _
 have hP4 := (Blk.of_arr w1 (peA x) 33 4 rfl).p4
 have hl2 : w1.heap.size < (w1.alloc (.cells #[.int .i64 x.lv, .bool x.b, .slice x.a x.n x.p, .slice x.ka x.kn x.kp] 33)).heap.size := by simp
 have hBB := (hB.ext he1).ext he2
 have hEE := (hE.trans he1).trans he2
 have hRR := RR.ext hR he2
 generalize hW : w1.alloc (.cells #[.int .i64 x.lv, .bool x.b, .slice x.a x.n x.p, .slice x.ka x.kn x.kp] 33) = W at hP4 hl2 hBB hEE hRR
 have HW := Lib.hid hW
 obtain ⟨⟨q0, q1, q2, q3⟩, ⟨f0, f1, f2, f3⟩, ⟨r0, r1, r2, r3⟩, hk, hf⟩ := fin4 (M' := Mx M w.heap.size (w.heap.size + 1)) (w := w) (.int .i64 x.lv) (.bool x.b) (.slice x.a x.n x.p) (.slice x.ka x.kn x.kp) hBB (Mx.at (by omega)) (Nat.le_refl _) hEE
 have HF : Hid (∃ y l, Ending.returned (.agg (peA x)) = .returned (.agg (peA y)) ∧ BT2 n M (set4 W w.heap.size 0 (.int .i64 x.lv) (.bool x.b) (.slice x.a x.n x.p) (.slice x.ka x.kn x.kp)) y l ∧ Ext w (set4 W w.heap.size 0 (.int .i64 x.lv) (.bool x.b) (.slice x.a x.n x.p) (.slice x.ka x.kn x.kp))) :=
  ⟨x, _, rfl, ⟨⟨t, RR.more Mx.less (RR.kp hk hRR), hS, rfl⟩, hCt.2.1.le (by omega)⟩, hf⟩
 unfold set4 at r0 r1 r2 r3
 simp only [arr] at q0 q1 q2 q3
 obtain ⟨p0, p1, p2, p3⟩ := hP4
 have hl1 : w.heap.size < W.heap.size := hBB.lt
 clear hCt hE hB hM2 h2 he1 he2 hR hS hk hf h hBB hEE hRR hW
 go_upto_region 2 with (fail)
 rw [HW.out]
 go_wp2
 exact bodyPost_ret (v := .agg (peA x)) (by simp [results, Tryz.results35, go_sem, r0, r1, r2, r3]) rfl HF.out
end Go.Proofs.YtjcceddloogiiaaGreat
