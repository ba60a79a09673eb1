/- Arguments of the type []sparse.Poly, opened. cylinderlaw23.list. -/
import Derived.Test.YtjcceddloogiiaaGreatMr
import Derived.Test.YtjcceddloogiiaaGreatDe
import Derived.Test.YtjcceddloogiiaaGreatDi
set_option linter.unusedVariables false
set_option linter.unusedSimpArgs false

namespace Go.Proofs.YtjcceddloogiiaaGreat
open Go.ChangeShapes Go.WideShapes Go.ChangeAt Go.RowKit Go.Deep

section
variable {H : Type} {enc : TypeId × Value → H} {W : World}
set_option maxRecDepth 10000 in
theorem open_polyI {fuel : Nat} {v : Value} {x : DataW H × List MemPlace} (h : DataW.trod enc Tryz.prog W 0 (fun _ => true) true fuel 37 [v] = some x) : ∃ a n cap X, v = .slice a n cap ∧ PRaw W a n cap X := by
 have hu : Tryz.prog.underlying 37 = some (.slice 130) := Tryz.underlying37
 have hc6 : Tryz.prog.cellsOf 130 = 6 := by kernel_rfl
 rcases open_slice hu h with ⟨h0, _⟩ | ⟨a, len, cap, m, n, D, Pl, hcs, hb, hl, hm, hmm, _, hi⟩
 ·simp only [List.cons.injEq, and_true] at h0
  exact ⟨none, 0, 0, fun _ => default, h0, ⟨Nat.le_refl _, Nat.zero_le _, .inl rfl⟩, (fun i hi => by omega), fun i hi => by omega⟩
 ·simp only [List.cons.injEq, and_true] at hcs
  have hm2 : len ≤ m := by rw [hmm, if_pos rfl]; exact hl
  rw [hc6] at hi
  rcases Nat.eq_zero_or_pos len with h0 | h0
  ·subst h0
   exact ⟨some a, 0, cap, fun _ => default, hcs, ⟨Nat.zero_le _, hm, .inl rfl⟩, (fun i hi => by omega), fun i hi => by omega⟩
  have hsp : a.spot = none ∧ a.block < W.heap.size := by
   obtain ⟨cs', h1, _⟩ := hi 0 (by omega)
   obtain ⟨_, hlen, hat⟩ := World.cells?_some h1
   match cs', hlen with
   | [u0, u1, u2, u3, u4, u5], _ =>
    have c0 : W.cell? ((a.add (0 * 6)).add 0) = some u0 := hat 0 (by omega)
    rw [Nat.zero_mul, addr_zero, addr_zero] at c0
    exact ⟨World.cell?_spot c0, World.block_lt_of_cell? _ _ c0⟩
  obtain ⟨b, off, sp⟩ := a
  obtain ⟨rfl, hblk⟩ := hsp
  simp only at hblk
  have hall : ∀ i, ∃ x : TE, i < len → (W.cell? ⟨b, off + i * 6, none⟩ = some (.bool x.b) ∧ W.cell? ⟨b, off + i * 6 + 1, none⟩ = some (.slice x.a x.n x.p) ∧
    W.cell? ⟨b, off + i * 6 + 2, none⟩ = some (.int .i64 x.m.a) ∧ W.cell? ⟨b, off + i * 6 + 3, none⟩ = some (.int .i64 x.m.b) ∧ W.cell? ⟨b, off + i * 6 + 4, none⟩ = some (.int .i64 x.m.c) ∧ W.cell? ⟨b, off + i * 6 + 5, none⟩ = some (.int .i64 x.m.d)) ∧
    x.n ≤ 9223372036854775807 ∧ (x.n ≤ 1099511627776 → ∃ d, NatR M0 W (.slice x.a x.n x.p) x.n d) := by
   intro i
   by_cases hil : i < len
   ·obtain ⟨cs', h1, h2⟩ := hi i (by omega)
    obtain ⟨_, hlen, hat⟩ := World.cells?_some h1
    match cs', hlen with
    | [u0, u1, u2, u3, u4, u5], _ =>
     have c0 : W.cell? (((⟨b, off, none⟩ : Addr).add (i * 6)).add 0) = some u0 := hat 0 (by omega)
     have c1 : W.cell? (((⟨b, off, none⟩ : Addr).add (i * 6)).add 1) = some u1 := hat 1 (by omega)
     have c2 : W.cell? (((⟨b, off, none⟩ : Addr).add (i * 6)).add 2) = some u2 := hat 2 (by omega)
     have c3 : W.cell? (((⟨b, off, none⟩ : Addr).add (i * 6)).add 3) = some u3 := hat 3 (by omega)
     have c4 : W.cell? (((⟨b, off, none⟩ : Addr).add (i * 6)).add 4) = some u4 := hat 4 (by omega)
     have c5 : W.cell? (((⟨b, off, none⟩ : Addr).add (i * 6)).add 5) = some u5 := hat 5 (by omega)
     rw [addr_add, addr_add] at c0 c1 c2 c3 c4 c5
     obtain ⟨y0, y1, q, _, _, e0, e1⟩ := trod_struct2 Tryz.underlying130 h2
     rw [show Tryz.prog.cellsOf 31 = 2 by kernel_rfl] at e0
     rw [show Tryz.prog.cellsOf 128 = 4 by kernel_rfl] at e1
     obtain ⟨bb, a', n', p', rfl, rfl, hn', hd'⟩ := open_int (v0 := u0) (v1 := u1) e0
     obtain ⟨mm, rfl, rfl, rfl, rfl⟩ := open_mono (v0 := u2) (v1 := u3) (v2 := u4) (v3 := u5) e1
     exact ⟨⟨bb, a', n', p', mm⟩, fun _ => ⟨⟨c0, c1, c2, c3, c4, c5⟩, hn', hd'⟩⟩
   ·exact ⟨default, fun h => absurd h hil⟩
  refine ⟨some ⟨b, off, none⟩, len, cap, fun i => (hall i).choose, hcs, ⟨hl, hm, .inr ⟨b, off, rfl, hblk, fun i hi => ((hall i).choose_spec hi).1⟩⟩, fun i hi => ((hall i).choose_spec hi).2.1, fun i hi => ((hall i).choose_spec hi).2.2⟩
def PsRaw (W : World) (a : Option Addr) (n cap : Nat) (Y : Nat → SE) : Prop := n ≤ cap ∧ cap ≤ maxLen ∧ ∀ i, i < n → ∃ b off, a = some ⟨b, off, none⟩ ∧ b < W.heap.size ∧ W.cell? ⟨b, off + i, none⟩ = some (.slice (Y i).a (Y i).n (Y i).p) ∧ ∃ X, PRaw W (Y i).a (Y i).n (Y i).p X
set_option maxRecDepth 10000 in
theorem open_polys {base : Nat} {v : Value} {d : DataW H} {ps : List MemPlace} (hv : Value.okWide Tryz.prog W .any base 22 v) (h : DataW.Trod enc Tryz.prog W 0 (fun _ => true) true 22 v d ps) : ∃ a n cap Y, v = .slice a n cap ∧ PsRaw W a n cap Y := by
 obtain ⟨fuel, h⟩ := h
 have hu : Tryz.prog.underlying 22 = some (.slice 37) := Tryz.underlying22
 have hc1 : Tryz.prog.cellsOf 37 = 1 := by kernel_rfl
 have hv1 : v.cells.toList = [v] := by
  obtain ⟨a, n, c, rfl⟩ := okWide_slice hu hv
  rfl
 rw [hv1] at h
 rcases open_slice hu h with ⟨h0, _⟩ | ⟨a, len, cap, m, n, D, Pl, hcs, hb, hl, hm, hmm, _, hi⟩
 ·simp only [List.cons.injEq, and_true] at h0
  exact ⟨none, 0, 0, fun _ => default, h0, Nat.le_refl _, Nat.zero_le _, fun i hi => by omega⟩
 ·simp only [List.cons.injEq, and_true] at hcs
  have hsp : a.spot = none ∧ a.block < W.heap.size := by
   rw [hcs] at hv
   simp only [Value.okWide, hu, Cell.okWide, Cell.ok] at hv
   obtain ⟨_, _, _, hs, row, cells, hsh, _⟩ := hv
   refine ⟨hs, ?_⟩
   unfold World.shape? at hsh
   split at hsh
   ·rename_i c e r hh
    exact (Array.getElem?_eq_some_iff.1 hh).1
   ·cases hsh
  have hm2 : len ≤ m := by rw [hmm, if_pos rfl]; exact hl
  rw [hc1] at hi
  have hall : ∀ i, ∃ y : SE, i < len → ∃ b off, a = ⟨b, off, none⟩ ∧ b < W.heap.size ∧ W.cell? ⟨b, off + i, none⟩ = some (.slice y.a y.n y.p) ∧ ∃ X, PRaw W y.a y.n y.p X := by
   intro i
   by_cases hil : i < len
   ·obtain ⟨cs', h1, h2⟩ := hi i (by omega)
    obtain ⟨_, hlen, hat⟩ := World.cells?_some h1
    match cs', hlen with
    | [u0], _ =>
     have c0 : W.cell? ((a.add (i * 1)).add 0) = some u0 := hat 0 (by omega)
     rw [Nat.mul_one, addr_zero] at c0
     obtain ⟨a', n', p', X, rfl, hX⟩ := open_polyI h2
     obtain ⟨b, off, sp⟩ := a
     obtain ⟨rfl, hblk⟩ := hsp
     rw [addr_add] at c0
     exact ⟨⟨a', n', p', []⟩, fun _ => ⟨b, off, rfl, hblk, c0, X, hX⟩⟩
   ·exact ⟨default, fun h => absurd h hil⟩
  refine ⟨some a, len, cap, fun i => (hall i).choose, hcs, hl, hm, fun i hi => ?_⟩
  obtain ⟨b, off, e, r⟩ := (hall i).choose_spec hi
  exact ⟨b, off, by rw [e], r⟩
end
end Go.Proofs.YtjcceddloogiiaaGreat

namespace Go.Proofs.YtjcceddloogiiaaGreat
open Go.RowKit

def LsP (w : World) (y : SE) (l : List Tm) : Prop := PolyV M0 w (sv y) l ∧ Sm23 (norm l) ∧ dlen (nrm l) ≤ 7 ∧ (∀ s ∈ l, ∀ k, s.2.get k ≤ 1073741824) ∧ l.length ≤ 8
theorem PsRaw.ext {W W' : World} {a : Option Addr} {n cap : Nat} {Y : Nat → SE} (h : PsRaw W a n cap Y) (he : Ext W W') (i : Nat) (hi : i < n) : ∃ b off, a = some ⟨b, off, none⟩ ∧ b < W'.heap.size ∧ W'.cell? ⟨b, off + i, none⟩ = some (.slice (Y i).a (Y i).n (Y i).p) ∧ ∃ X, TRaw W' (Y i).a (Y i).n (Y i).p X ∧ PRaw W (Y i).a (Y i).n (Y i).p X := by
 obtain ⟨b, off, h1, h2, h3, X, h4⟩ := h.2.2 i hi
 exact ⟨b, off, h1, Nat.lt_of_lt_of_le h2 he.size, by rw [he.cell h2]; exact h3, X, h4.1.ext he, h4⟩
def RetLs (w : World) (n most : Nat) (Y : Nat → SE) (e : Ending) (w' : World) : Prop :=
 (e = .returned (.tuple #[.slice none 0 0, .bool false]) ∨ ∃ (a : Option Addr) (p : Nat) (P : Nat → List Tm), e = .returned (.tuple #[.slice a n p, .bool true]) ∧ n ≤ most ∧ (∀ i, i < n → LsP w (Y i) (P i)) ∧ KRow M0 w' 4 (.slice a n p) n fun i => norm (P i)) ∧ Ext w w'
set_option maxRecDepth 100000 in
set_option maxHeartbeats 8000000 in
theorem law_list (a : Option Addr) (n cap most : Nat) (Y : Nat → SE) (w : World) (h : PsRaw w a n cap Y) (hmost : most ≤ 1000) : Calls Tryz.prog 16 #[.slice a n cap, .int .i64 (most : Int)] w (RetLs w n most Y) := by
 obtain ⟨j0, ji, jz0, jz1, jz2⟩ := info_parts Tryz.info33
 have hnc := h.1
 have hcm := h.2.1
 have HR := Lib.hid h
 have hnb : (n : Int) ≤ 9223372036854775807 := by unfold maxLen at hcm; omega
 clear h hcm
 by_cases hn : ¬ n ≤ most
 ·have hd : ¬ (n : Int) ≤ (most : Int) := by omega
  go_enter Tryz.func16, Tryz.ntmps16
  go_wp2
  exact bodyPost_ret (v := .tuple #[.slice none 0 0, .bool false]) (by simp [results, Tryz.results16, go_sem]) rfl ⟨.inl rfl, Ext.refl _⟩
 have hn' : n ≤ most := Decidable.not_not.1 hn
 have hd : ¬ (most : Int) < (n : Int) := by omega
 have hnL : n ≤ 1000 := by omega
 clear hn
 have HNM := Lib.hid hn'
 go_enter Tryz.func16, Tryz.ntmps16
 go_wp2
 go_loopw [15, 6] (fun i v wr => ∃ (k : Nat) (P : Nat → List Tm) (xx : Nat → PE), k ≤ n ∧ i = .int .i64 k ∧ Own wr w.heap.size 33 4 v k (px xx) ∧ Hid (∀ i, i < k → CRx (MR M0 v) wr 4 (xx i) (norm (P i))) ∧ Hid (∀ i, i < k → LsP w (Y i) (P i)) ∧ Hid (Ext w wr)) (fun i _ _ => n - (intOf i).toNat)
 case atStart => exact ⟨0, fun _ => [], fun _ => PE.z, Nat.zero_le _, rfl, Own.nil _ _ _ _ _, fun i hi => absurd hi (Nat.not_lt_zero _), fun i hi => absurd hi (Nat.not_lt_zero _), Ext.refl _⟩
 case round =>
  obtain ⟨k, P, xx, hk, rfl, hO, HX, HP, HE⟩ := hrel
  obtain ⟨va, vc, rfl⟩ := hO.form
  by_cases hlt : k < n
  ·obtain ⟨b, off, rfl, hbw, c0, X, hT, hX⟩ := HR.out.ext HE.out k hlt
   have hltI : (k : Int) < (n : Int) := by omega
   have HLT := Lib.hid hlt
   have CF := Lib.hid (law_few23 _ _ _ X wr hT hX.2.1)
   have HRX := Lib.hid hX
   have HO := Lib.hid hO
   clear hT hX hO
   go_wp2_with (fail)
   refine CF.out.mono ?_
   rintro e w2 ⟨bf, rfl, hbf, rfl⟩
   cases bf with
   | false =>
    have HF := Lib.hid HE.out
    clear hbf CF HX HP HE HO HRX c0
    go_wp2
    exact bodyPost_ret (v := .tuple #[.slice none 0 0, .bool false]) (by simp [results, Tryz.results16, go_sem]) rfl ⟨.inl rfl, HF.out⟩
   | true =>
    obtain ⟨l, hl, hs, hd7, hx2, hl8⟩ := HRX.out.sm23 (hbf.1 rfl)
    have HL : Hid (LsP w (Y k) l) := ⟨hl, hs, hd7, hx2, hl8⟩
    have hd2 : dlen (nrm l) ≤ 1099511627776 := Nat.le_trans hd7 (by omega)
    clear hd7 hl8
    have CO := Lib.hid (rp_Of (MR M0 (.slice va k vc)) (.slice (Y k).a (Y k).n (Y k).p) l wr (mr_own (mb0 w) HE.out HO.out) ((hl.more (M' := MR M0 (.slice va k vc)) (fun b hb => hb.imp id fun h => (HO.out.lt b h).1)).ext HE.out) hd2 hx2)
    clear hbf CF hl hs hd2 hx2 HRX
    go_wp2_with (fail)
    refine CO.out.mono ?_
    rintro e w5 ⟨z, rfl, hz, he5⟩
    have hO5 := (HO.out.ext he5).ext ((Ext.refl w5).alloc (.cells (peA z) 33))
    have hB5 := Blk.of_arr w5 (peA z) 33 4 rfl
    have hsz5 : w.heap.size ≤ (w5.alloc (.cells (peA z) 33)).heap.size := by have := HE.out.size; have := he5.size; simp; omega
    have HX5 : Hid (∀ i, i < k → CRx (MR M0 (.slice va k vc)) (w5.alloc (.cells (peA z) 33)) 4 (xx i) (norm (P i))) := fun i hi => ((HX.out i hi).ext he5).ext ((Ext.refl w5).alloc _)
    have HZ5 := Lib.hid (hz.ext ((Ext.refl w5).alloc (.cells (peA z) 33)))
    have HE5 := Lib.hid ((HE.out.trans he5).trans ((Ext.refl w5).alloc (.cells (peA z) 33)))
    have HLT5 := Lib.hid (HO.out.lt)
    have HONE : Hid (∀ j, j < 4 → (arr (peA z) j).oneCell' = true) := pe_one z
    clear hz he5 HX HE HO CO c0
    go_wp2_with (at_builtin; refine wpList_append_fn _ rfl (.tmp 22) (.tmp 25) _ rfl w.heap.size 33 j0 _ 4 64 Tryz.underlying24 ji jz0 jz1 jz2 rfl (by omega) (.slice va k vc) k (px xx) rfl hO5 w5.heap.size 33 1 (arr (peA z)) rfl hB5 HONE.out ?s1 ?s2 ?s3 ?_)
    case s1 => unfold maxLen; omega
    case s2 => omega
    case s3 => exact hsz5
    intro gg cap2 w6 hO6 hg6 hat hlt6
    replace hat : (Value.slice va k vc).ownBlock = some gg ∨ (w5.alloc (.cells (peA z) 33)).heap.size ≤ gg := by rw [World.size_alloc]; exact hat
    have HF : Hid (∃ (k' : Nat) (P' : Nat → List Tm) (xx' : Nat → PE), k' ≤ n ∧ Value.int .i64 ((k : Int) + 1) = .int .i64 k' ∧ Own w6 w.heap.size 33 4 (.slice (some ⟨gg, 0, none⟩) (k + 1) cap2) k' (px xx') ∧ Hid (∀ i, i < k' → CRx (MR M0 (.slice (some ⟨gg, 0, none⟩) (k + 1) cap2)) w6 4 (xx' i) (norm (P' i))) ∧ Hid (∀ i, i < k' → LsP w (Y i) (P' i)) ∧ Hid (Ext w w6)) := by
     refine ⟨k + 1, snoc P k l, snoc xx k z, HLT.out, by simp, hO6.congr fun j hj => px_app xx k z j hj, fun i hi => ?_, fun i hi => ?_, HE5.out.grown hg6 (fun q hq => (HLT5.out q hq).1)⟩
     ·by_cases him : i = k
      ·subst him; rw [snoc_at, snoc_at]; exact keep_grownC HZ5.out hg6 hat
      ·rw [snoc_lt _ _ _ _ (by omega), snoc_lt _ _ _ _ (by omega)]; exact keep_grownC (HX5.out i (by omega)) hg6 hat
     ·by_cases him : i = k
      ·subst him; rw [snoc_at]; exact HL.out
      ·rw [snoc_lt _ _ _ _ (by omega)]; exact HP.out i (by omega)
    clear hO6 hg6 hat hO5 hB5 HX5 HZ5 HE5 HP HL
    go_wp2
    go_roundw
    case rel => exact HF.out
    case measure => have := HLT.out; simp [intOf]; omega
  ·obtain rfl : n = k := by omega
   have HF : Hid (RetLs w n most Y (.returned (.tuple #[.slice va n vc, .bool true])) wr) := ⟨.inr ⟨va, vc, P, rfl, HNM.out, HP.out, Own.toK hO (fun i hi => ((HX.out i hi).more fun b hb => .inl (.inl hb))) (fun g hg hm => hm) (by omega)⟩, HE.out⟩
   have hge : ¬ (n : Int) < (n : Int) := by omega
   clear HX HP HE hO
   go_wp2
   exact bodyPost_ret (v := .tuple #[.slice va n vc, .bool true]) (by simp [results, Tryz.results16, go_sem]) rfl HF.out
end Go.Proofs.YtjcceddloogiiaaGreat
