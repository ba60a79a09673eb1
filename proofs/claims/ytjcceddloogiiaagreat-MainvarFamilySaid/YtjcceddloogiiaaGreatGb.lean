/- MainvarFamily: the walk. -/
import Derived.Test.YtjcceddloogiiaaGreatGa
import Derived.Test.YtjcceddloogiiaaGreatDl
import Derived.Test.YtjcceddloogiiaaGreatDm
import Derived.Test.YtjcceddloogiiaaGreatCb
set_option linter.unusedVariables false
set_option linter.unusedSimpArgs false

namespace Go.Proofs.YtjcceddloogiiaaGreat
open Go.RowKit

theorem gcF_smulF (c : Int) : ∀ (l : List Tm) (a : Nat), (smul c l).foldl (fun g t => Nat.gcd g t.1.natAbs) (c.natAbs * a) = c.natAbs * l.foldl (fun g t => Nat.gcd g t.1.natAbs) a
 | [], _ => rfl
 | t :: l, a => by
  show (smul c l).foldl (fun g t => Nat.gcd g t.1.natAbs) (Nat.gcd (c.natAbs * a) (c * t.1).natAbs) = _
  rw [Int.natAbs_mul, Nat.gcd_mul_left, gcF_smulF c l]
  rfl
theorem gcL_smulF (c : Int) (l : List Tm) : gcL (smul c l) = c.natAbs * gcL l := gcF_smulF c l 0
theorem sgnN_smulF {c : Int} (hc : c ≠ 0) {l : List Tm} (hl : Canon l) (hn : l ≠ []) : sgnN (smul c l) = c * sgnN l := by
 cases l with
 | nil => exact absurd rfl hn
 | cons t l =>
  have h0 := (hl.2 t List.mem_cons_self).1
  have hg := gcL_smulF c (t :: l)
  show (if c * t.1 < 0 then -((gcL (smul c (t :: l)) : Nat) : Int) else ((gcL (smul c (t :: l)) : Nat) : Int)) = c * (if t.1 < 0 then -((gcL (t :: l) : Nat) : Int) else ((gcL (t :: l) : Nat) : Int))
  rw [hg, Int.natCast_mul]
  generalize ((gcL (t :: l) : Nat) : Int) = G
  rcases Int.lt_or_gt_of_ne hc with h1 | h1
  ·rw [show ((c.natAbs : Nat) : Int) = -c by omega]
   rcases Int.lt_or_gt_of_ne h0 with h2 | h2
   ·rw [if_neg (by have := Int.mul_pos_of_neg_of_neg h1 h2; omega), if_pos h2, Int.neg_mul, Int.mul_neg]
   ·rw [if_pos (Int.mul_neg_of_neg_of_pos h1 h2), if_neg (by omega), Int.neg_mul, Int.neg_neg]
  ·rw [show ((c.natAbs : Nat) : Int) = c by omega]
   rcases Int.lt_or_gt_of_ne h0 with h2 | h2
   ·rw [if_pos (Int.mul_neg_of_pos_of_neg h1 h2), if_pos h2, Int.mul_neg]
   ·rw [if_neg (by have := Int.mul_pos h1 h2; omega), if_neg (by omega)]
theorem snorm_smulF {c : Int} (hc : c ≠ 0) (l : List Tm) : snorm (smul c l) = snorm l := by
 unfold snorm
 rw [← norm_smul hc]
 have hcan := norm_canon l
 by_cases hn : norm l = []
 ·rw [hn]; rfl
 rw [sgnN_smulF hc hcan hn]
 have hs0 := sgnN_ne hcan
 generalize hS : sgnN (norm l) = S at *
 unfold smul
 rw [List.map_map]
 apply List.map_congr_left
 intro t ht
 obtain ⟨k, hk⟩ := sgnN_dvd ht
 rw [hS] at hk
 show ((c * t.1).tdiv (c * S), t.2) = (t.1.tdiv S, t.2)
 rw [hk, ← Int.mul_assoc, Int.mul_tdiv_cancel_left _ (Int.mul_ne_zero hc hs0), Int.mul_tdiv_cancel_left _ hs0]
theorem snorm_idemF (l : List Tm) : snorm (snorm l) = snorm l := by
 rw [← snorm_smulF (sgnN_ne (norm_canon l)) (snorm l), smul_snorm, snorm_norm]
theorem lv_lvF {l : List Tm} {k : Nat} (hl : NN l) (h : LvR l k) : k = lvM ((norm l).map (·.2)) := by
 have hs := nn_norm_sim hl
 refine Nat.le_antisymm ?_ (lvM_le_of _ fun m hm => ?_)
 ·rcases h.2.2 with h0 | ⟨m, hm, hp⟩
  ·omega
  ·by_cases h1 : k = 0
   ·omega
   have hmem : m ∈ (norm l).map (·.2) := by
    refine Classical.byContradiction fun hc => ?_
    rw [← hs m] at hm
    exact hm (coefAt_zero fun s hs e => hc (List.mem_map.2 ⟨s, hs, e⟩))
   exact Nat.le_trans (le_hiU (by omega) hp h.1) (le_lvM hmem)
 ·obtain ⟨s, hs', rfl⟩ := List.mem_map.1 hm
  refine hiU_le_of (fun j hj h4 => ?_) (Nat.le_refl _)
  have hne : coefAt l s.2 ≠ 0 := by rw [← hs s.2]; exact canon_coef_ne (norm_canon l) hs'
  have := h.2.1 s.2 hne j hj h4
  omega
theorem sc_simF (l : List Tm) (z : Int) : Sim (pmul l [(z, Mo.zero)]) (smul z l) := by
 have h := pmul_single l (z, Mo.zero)
 rwa [shift_zero] at h
theorem deg_sclF {B : Nat} {l : List Tm} (h : Deg B l) (z : Int) : Deg B (pmul l [(z, Mo.zero)]) := Deg.sim (l := smul z l) (fun m hm k => h m (fun e => hm (by rw [coefAt_smul, e]; exact Int.mul_zero _)) k) (sc_simF l z).symm
def appF {T : Type} (n : Nat) (x y : Nat → T) : Nat → T := fun i => if i < n then x i else y (i - n)
theorem lvM_sn (l : List Tm) : lvM ((snorm l).map (·.2)) = lvM ((norm l).map (·.2)) := by
 unfold snorm
 rw [List.map_map]
 rfl
theorem snorm_degF {l : List Tm} {B : Nat} (hl : NN l) (h : Deg B l) : Deg B (snorm l) := fun m hm k => by
 refine h m (fun h0 => ?_) k
 have h1 : coefAt (norm l) m = 0 := by rw [nn_norm_sim hl m]; exact h0
 rw [← smul_snorm l, coefAt_smul] at h1
 rcases Int.mul_eq_zero.1 h1 with h2 | h2
 ·have hz : Sim l [] := (nn_norm_sim hl).symm.trans fun m => by
   rw [← smul_snorm l, coefAt_smul, h2, Int.zero_mul]; rfl
  have hn : norm l = [] := hz.norm
  have h3 : snorm l = [] := by unfold snorm; rw [hn]; rfl
  rw [h3] at hm; exact hm rfl
 ·exact hm h2
theorem SmC.sn {l : List Tm} (h : SmC l) : SmC (snorm l) := ⟨nn_of_all fun t ht => by
 have := all_nn_norm (snorm l) t (by rw [norm_snorm]; exact ht)
 exact this, snorm_degF h.1 h.2.1, Nat.le_trans (dlen_mono (snorm_nrm l)) h.2.2⟩
theorem FamL.sn {N c : Nat} {P F : Nat → List Tm} (h : FamL N P c F) (i : Nat) (hi : i < c) : snorm (F i) = F i ∧ norm (F i) = F i := by
 obtain ⟨j, _, e, _⟩ := h.1 i hi
 rw [e]
 exact ⟨snorm_idemF _, norm_snorm _⟩
def gS (n : Nat) (P : Nat → List Tm) (j : Nat) : List Tm := pmul (P (n - 1 - j)) [(-((n - 1 - j : Nat) : Int) - 1, Mo.zero)]
theorem gS_sn (n : Nat) (P : Nat → List Tm) (j : Nat) : snorm (gS n P j) = snorm (P (n - 1 - j)) := by
 unfold gS
 rw [(sc_simF _ _).snorm]
 exact snorm_smulF (by omega) _
theorem back_eq {n c c' : Nat} {P F F' : Nat → List Tm} (h : FamL n P c F) (h' : FamL n (gS n P) c' F') : c = c' ∧ ∀ i, i < c → F i = F' i :=
 fam_uniq h h' (fun j hj _ => ⟨n - 1 - j, by omega, by rw [gS_sn, show n - 1 - (n - 1 - j) = j by omega]⟩) fun j hj _ => ⟨n - 1 - j, by omega, gS_sn n P j⟩
theorem idem_eq {n c c' : Nat} {P F F' : Nat → List Tm} (h : FamL n P c F) (h' : FamL c F c' F') : c = c' ∧ ∀ i, i < c → F i = F' i :=
 fam_uniq h h' (fun j hj hl => by
  obtain ⟨i, hi, e⟩ := h.2.1 j hj hl
  exact ⟨i, hi, by rw [(h.sn i hi).1, e]⟩) fun j hj _ => by
  obtain ⟨i, hi, e, _⟩ := h.1 j hj
  exact ⟨i, hi, by rw [(h.sn j hj).1, e]⟩
theorem both_eq {n c c' : Nat} {P F F' : Nat → List Tm} (h : FamL n P c F) (h' : FamL (n + n) (appF n (gS n P) P) c' F') : c = c' ∧ ∀ i, i < c → F i = F' i :=
 fam_uniq h h' (fun j hj _ => ⟨n + j, by omega, by unfold appF; rw [if_neg (by omega), show n + j - n = j by omega]⟩) fun j hj _ => by
  unfold appF
  by_cases hjn : j < n
  ·rw [if_pos hjn]; exact ⟨n - 1 - j, by omega, gS_sn n P j⟩
  ·rw [if_neg hjn]; exact ⟨j - n, by omega, rfl⟩
theorem px_rows (x y : Nat → PE) (n : Nat) (j : Nat) : app (px x) (n * 4) (px y) j = px (appF n x y) j := by
 unfold app px appF
 by_cases h : j < n * 4
 ·rw [if_pos h]
  have h2 : j / 4 < n := by omega
  simp only [if_pos h2]
 ·rw [if_neg h]
  have h2 : ¬ j / 4 < n := by omega
  have h3 : (j - n * 4) % 4 = j % 4 := by omega
  have h4 : (j - n * 4) / 4 = j / 4 - n := by omega
  simp only [if_neg h2, h3, h4]
theorem px_each (x : Nat → PE) (j : Nat) : (px x j).oneCell' = true := by
 unfold px
 split
 ·rfl
 ·split
  ·rfl
  ·split <;> rfl
theorem wpList_wanted {P : Program} {ops : Array Oper} {rest : List Oper} {o : Oper} {a : Act} {w : World} {Q : Exit → Act → World → Prop} (hw : Region.wanted o (yielded ops a.tmps) = true) (h : Oper.wp P o a w (wpList P ops Q rest) Q) : wpList P ops Q (o :: rest) a w := by
 unfold wpList
 rw [if_pos hw]
 exact .inl h
theorem wp_append_rows {P : Program} (w : World) {o : Oper} {a : Act} {K : Act → World → Prop} {Q : Exit → Act → World → Prop} (s x : Operand) (t : TypeId)
  (ho : o.op = .call { callee := .builtin .append, args := #[s, x], argTypes := #[t, t] })
  (base : Nat) (i : TypeInfo) (z : Value) (ht : P.underlying t = some (.slice 33)) (hi : P.info? 33 = some i) (hz : i.zero = some z)
  (hsize : i.size = 4) (hby : i.bytes = 64) (hzs : z.cells.size = 4)
  (v : Value) (n : Nat) (xx : Nat → PE) (G : Nat → List Tm) (hs : a.eval s = v) (hown : Own w base 33 4 v n (px xx)) (hG : ∀ j, j < n → CRx (MR M0 v) w 4 (xx j) (G j))
  (ua : Option Addr) (m up : Nat) (R : Nat → List Tm) (hx : a.eval x = .slice ua m up) (hu : KRow (MR M0 v) w 4 (.slice ua m up) m R) (hu0 : m = 0 → ua = none ∧ up = 0) (h63 : n + m ≤ 1000000) (hbase : base ≤ w.heap.size)
  (h : ∀ va' cap w', KRow M0 w' 4 (.slice va' (n + m) cap) (n + m) (appF n G R) → w.grownBy w' v.ownBlock → K (a.put o.dst (.slice va' (n + m) cap)) w') :
  Oper.wp P o a w K Q := by
 rcases Nat.eq_zero_or_pos m with h0 | h0
 ·subst h0
  obtain ⟨rfl, rfl⟩ := hu0 rfl
  obtain ⟨va, vc, rfl⟩ := hown.form
  have hrun := run_append_owned_none (P := P) (w := w) base t o.type 33 i 4 ht hi (.slice va n vc) n _ hown.toRow
  have h2 := h va vc w (Own.toK hown (fun j hj => by
   rw [show appF n G R j = G j from if_pos (show j < n from hj)]; exact (hG j hj).more fun b hb => .inl (.inl hb)) (fun g hg hm => hm) (by omega)) (grownBy_refl w _)
  unfold Oper.wp
  simp [execOp, ho, resolve, invoke, builtin, hs, hx, hrun, Result.andThen]
  exact h2
 ·obtain ⟨xu, hxu⟩ := hu.x
  obtain ⟨⟨b, off, rfl, hmc, hcm, hb, hMb, _⟩, _⟩ := hxu 0 h0
  refine wp_append_lies w s x t ho base 33 i z 4 64 ht hi hz hsize hby hzs (by omega) v n (rowL (px xx) (n * 4)) hs hown.toRow ⟨b, off, none⟩ m up (rowL (px xu) (m * 4)) hx (rowL_len _ _) ?_ ?_ h0 (by unfold maxLen; omega) (by omega) hbase w.heap.size rfl ?_
  ·intro j u hj
   have hj2 : j < m * 4 := by
    have := (List.getElem?_eq_some_iff.1 hj).1
    simpa [rowL_len] using this
   rw [rowL_get _ _ _ hj2] at hj
   cases hj
   rw [addr_add]
   obtain ⟨⟨b', off', he, _, _, _, _, k0, k1, k2, k3⟩, _⟩ := hxu (j / 4) (by omega)
   simp only [Option.some.injEq, Addr.mk.injEq, and_true] at he
   obtain ⟨rfl, rfl⟩ := he
   unfold px
   by_cases e0 : j % 4 = 0
   ·rw [if_pos e0, show off + j = off + j / 4 * 4 by omega]; exact k0
   ·rw [if_neg e0]
    by_cases e1 : j % 4 = 1
    ·rw [if_pos e1, show off + j = off + j / 4 * 4 + 1 by omega]; exact k1
    ·rw [if_neg e1]
     by_cases e2 : j % 4 = 2
     ·rw [if_pos e2, show off + j = off + j / 4 * 4 + 2 by omega]; exact k2
     ·rw [if_neg e2, show off + j = off + j / 4 * 4 + 3 by omega]; exact k3
  ·intro u hu
   simp only [rowL, List.mem_map, List.mem_range] at hu
   obtain ⟨j, hj, rfl⟩ := hu
   exact px_each xu j
  ·intro g cap w' ho hg hat hlt
   rw [rowL_app, show n * 4 + m * 4 = (n + m) * 4 from by rw [Nat.add_mul]] at ho
   have hat2 : v.ownBlock = some g ∨ w.heap.size ≤ g := hat.imp id (fun e => by omega)
   refine h (some ⟨g, 0, none⟩) cap w' (Own.toK ((Own.ofRow ho).congr fun j _ => px_rows xx xu n j) (fun j hj => ?_) (fun g hg hm => hm) (by omega)) hg
   unfold appF
   by_cases hjn : j < n
   ·rw [if_pos hjn, if_pos hjn]; exact (keep_grownC (n := n + m) (cap := cap) (hG j hjn) hg hat2).more fun b hb => .inl (.inl hb)
   ·rw [if_neg hjn, if_neg hjn]; exact (keep_grownC (n := n + m) (cap := cap) (hxu (j - n) (by omega)).2.1 hg hat2).more fun b hb => .inl (.inl hb)
set_option maxRecDepth 100000 in
set_option maxHeartbeats 8000000 in
theorem law_list0 (a : Option Addr) (cap : Nat) (w : World) : Calls Tryz.prog 16 #[.slice a 0 cap, .int .i64 8] w fun e w' => e = .returned (.tuple #[.slice none 0 0, .bool true]) ∧ Ext w w' := by
 go_enter Tryz.func16, Tryz.ntmps16
 go_wp2
 go_loopw [15, 6] (fun i v wr => i = .int .i64 0 ∧ v = .slice none 0 0 ∧ wr = w) (fun _ _ _ => 0)
 case atStart => exact ⟨rfl, rfl, rfl⟩
 case round =>
  obtain ⟨rfl, rfl, rfl⟩ := hrel
  go_wp2
  exact bodyPost_ret (v := .tuple #[.slice none 0 0, .bool true]) (by simp [results, Tryz.results16, go_sem]) rfl ⟨rfl, Ext.refl _⟩
section
variable {P : Program} {ops : Array Oper} {Q : Exit → Act → World → Prop} {md : Region.Mode} {S : World → Prop} {last : Nat}
theorem ts1F {i : Nat} {is : List Nat} {oi : Oper} {fuel : Nat} {listed : Array Bool} {a : Act} {w : World}
  (hc : (Region.noSelect ops && Region.free md ops listed i && (Region.ready md ops listed).contains i && waits md ops last i) = true) (hS : S w)
  (hi : ops[i]? = some oi) (hwd : Region.wanted oi (yielded ops a.tmps) = false) (hQ : ∀ c a w, Q (.panic c) (a.put oi.dst undef) w → Q (.panic c) a w)
  (h : TkG P md ops Q S last is fuel (listed.setIfInBounds i true) (a.put oi.dst undef) w) : TkG P md ops Q S last (i :: is) (fuel + 1) listed a w := by
 simp only [Bool.and_eq_true] at hc
 exact ⟨wpAnyU_first hi (Region.noSelect_spec hc.1.1.1) hQ hc.2 fuel listed a w (Region.free_spec hi hc.1.1.2) (by simpa using hc.1.2) (.inr ⟨hwd, rfl⟩) hS h.out⟩
end
def RetLs2 (w : World) (n : Nat) (Y : Nat → SE) (e : Ending) (w' : World) : Prop :=
 (e = .returned (.tuple #[.slice none 0 0, .bool false]) ∨ ∃ (a : Option Addr) (p : Nat) (P : Nat → List Tm), e = .returned (.tuple #[.slice a n p, .bool true]) ∧ (n = 0 → a = none ∧ p = 0) ∧ n ≤ 8 ∧ (∀ i, i < n → LsP w (Y i) (P i)) ∧ KRow M0 w' 4 (.slice a n p) n fun i => norm (P i)) ∧ Ext w w'
theorem law_list2 (a : Option Addr) (n cap : Nat) (Y : Nat → SE) (w : World) (h : PsRaw w a n cap Y) : Calls Tryz.prog 16 #[.slice a n cap, .int .i64 8] w (RetLs2 w n Y) := by
 by_cases h0 : n = 0
 ·subst h0
  refine (law_list0 a cap w).mono ?_
  rintro e w' ⟨rfl, he⟩
  exact ⟨.inr ⟨none, 0, fun _ => [], rfl, fun _ => ⟨rfl, rfl⟩, by omega, fun i hi => absurd hi (Nat.not_lt_zero _), ⟨by omega, .inl ⟨rfl, rfl⟩⟩⟩, he⟩
 ·refine (law_list a n cap 8 Y w h (by omega)).mono ?_
  rintro e w' ⟨hr, he⟩
  exact ⟨hr.imp id fun ⟨a, p, P, h1, h2, h3⟩ => ⟨a, p, P, h1, fun h => absurd h h0, h2, h3⟩, he⟩
end Go.Proofs.YtjcceddloogiiaaGreat
