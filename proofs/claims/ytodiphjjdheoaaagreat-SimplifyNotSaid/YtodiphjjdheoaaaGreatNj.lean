/- Arguments of the types int8 and [4]int16, opened. Plain facts: values of lists with the same coefficients; relations as sets of signs. cylinderref38.Normal of an atom; cylinderref39.simple, IsSimple of constants and atoms; Integers. Rules for drawn regions: an operation that is not wanted; cylinderref39.Integers. The law SimplifyAtoms returns true at every input, without a panic; no conditions. -/
import Derived.Test.YtodiphjjdheoaaaGreatNi
set_option linter.unusedVariables false
set_option linter.unusedSimpArgs false

namespace Go.Proofs.YtodiphjjdheoaaaGreat
open Go.ChangeShapes Go.WideShapes Go.ChangeAt Go.RowKit Go.Deep

section
variable {H : Type} {enc : TypeId × Value → H} {W : World}
set_option linter.constructorNameAsVariable false in
set_option maxRecDepth 10000 in
theorem open_quad16 {base : Nat} {v : Value} {d : DataW H} {ps : List MemPlace} (hv : Value.okWide Tryz.prog W .any base 34 v) (h : DataW.Trod enc Tryz.prog W 0 (fun _ => true) true 34 v d ps) : ∃ y : Nat → Int, v = .agg #[.int .i16 (y 0), .int .i16 (y 1), .int .i16 (y 2), .int .i16 (y 3)] ∧ ∀ i, i < 4 → (-32768 ≤ y i ∧ y i ≤ 32767) := by
 obtain ⟨fuel, h⟩ := h
 have hu := Tryz.underlying34
 unfold Value.okWide at hv
 rw [hu] at hv
 obtain ⟨cs, rfl, hcs, _⟩ := hv
 rw [show Tryz.prog.cellsOf 34 = 4 by kernel_rfl] at hcs
 obtain ⟨v0, v1, v2, v3, rfl⟩ : ∃ v0 v1 v2 v3, cs = #[v0, v1, v2, v3] := by
  obtain ⟨l⟩ := cs
  match l, hcs with
  | [v0, v1, v2, v3], _ => exact ⟨v0, v1, v2, v3, rfl⟩
 have h' : DataW.trod enc Tryz.prog W 0 (fun _ => true) true fuel 34 [v0, v1, v2, v3] = some (d, ps) := h
 obtain ⟨xs, q, _, _, _, hxl, hx⟩ := DataW.trod_array hu h'
 have hce : Tryz.prog.cellsOf 33 = 1 := by kernel_rfl
 rw [hce] at hx
 have key : ∀ i, i < 4 → ∃ y, DataW.trod enc Tryz.prog W 0 (fun _ => true) true q 33 (([v0, v1, v2, v3].drop (i * 1)).take 1) = some y := fun i hi => by
  rw [hx i hi, List.getElem?_eq_getElem (by omega)]; exact ⟨_, rfl⟩
 obtain ⟨y0, e0⟩ := key 0 (by omega)
 obtain ⟨y1, e1⟩ := key 1 (by omega)
 obtain ⟨y2, e2⟩ := key 2 (by omega)
 obtain ⟨y3, e3⟩ := key 3 (by omega)
 obtain ⟨a, ha, _, wa⟩ := DataW.trod_int Tryz.underlying33 e0
 obtain ⟨b, hb, _, wb⟩ := DataW.trod_int Tryz.underlying33 e1
 obtain ⟨c, hc, _, wc⟩ := DataW.trod_int Tryz.underlying33 e2
 obtain ⟨e, he, _, we⟩ := DataW.trod_int Tryz.underlying33 e3
 simp at ha hb hc he
 simp [Lit.wf, IntKind.min, IntKind.max, IntKind.signed, IntKind.bits] at wa wb wc we
 refine ⟨fun i => if i = 0 then a else if i = 1 then b else if i = 2 then c else e, by rw [ha, hb, hc, he]; rfl, fun i hi => ?_⟩
 rcases (show i = 0 ∨ i = 1 ∨ i = 2 ∨ i = 3 by omega) with rfl | rfl | rfl | rfl <;> assumption
end
end Go.Proofs.YtodiphjjdheoaaaGreat

namespace Go.Proofs.YtodiphjjdheoaaaGreat
open Go.RowKit

theorem rel_cases (r : Int) {p : Int → Bool} (h1 : p 1 = true) (h2 : p 2 = true) (h4 : p 4 = true) (h5 : p 5 = true) (h6 : p 6 = true) (h : sg r = 2 → (∀ s, perm r s = decide (s = 0)) → p r = true) : p r = true := by
 by_cases e1 : r = 1
 ·rw [e1]; exact h1
 by_cases e2 : r = 2
 ·rw [e2]; exact h2
 by_cases e4 : r = 4
 ·rw [e4]; exact h4
 by_cases e5 : r = 5
 ·rw [e5]; exact h5
 by_cases e6 : r = 6
 ·rw [e6]; exact h6
 exact h (by unfold sg; rw [if_neg e1, if_neg e2, if_neg e4, if_neg e5, if_neg e6]) fun s => by unfold perm; rw [if_neg e1, if_neg e2, if_neg e4, if_neg e5, if_neg e6]
theorem sg3 {s : Int} (h : s = -1 ∨ s = 0 ∨ s = 1) (r : Int) : (bits BinOp.and .i64 (sg r) (bt s) != 0) = perm r s := by
 rcases h with rfl | rfl | rfl <;> exact eq_of_beq (rel_cases r (p := fun r => (bits BinOp.and .i64 (sg r) (bt _) != 0) == perm r _) (by decide +kernel) (by decide +kernel) (by decide +kernel) (by decide +kernel) (by decide +kernel) fun h1 h2 => by simp only [h1, h2]; decide +kernel)
theorem rl_range (r : Int) : (1 ≤ (rl (sg r)).1 ∧ (rl (sg r)).1 ≤ 6) ∧ (1 ≤ (rl (opp (sg r))).1 ∧ (rl (opp (sg r))).1 ≤ 6) := by
 rcases sg_cases r with h | h | h | h | h | h <;> rw [h] <;> decide
theorem sign3 (z : Int) : z.sign = -1 ∨ z.sign = 0 ∨ z.sign = 1 := by
 rcases Int.lt_trichotomy z 0 with h | h | h
 ·exact .inl (Int.sign_eq_neg_one_of_neg h)
 ·subst h; exact .inr (.inl rfl)
 ·exact .inr (.inr (Int.sign_eq_one_of_pos h))
def arel (h r : Int) : Int := (rl (if h < 0 then opp (sg r) else sg r)).1
theorem arel_range (h r : Int) : 1 ≤ arel h r ∧ arel h r ≤ 6 := by
 unfold arel
 split
 ·exact (rl_range r).2
 ·exact (rl_range r).1
theorem room_dl {t : RT 6} {n : Int} (h : SmT (4294967296 ^ 4) 6 t n) (hn : n ≤ 60) : TB 6 t ∧ dlen (nrm (terms 6 t)) ≤ 5 ∧ (∀ s ∈ terms 6 t, ∀ k, s.2.get k ≤ 66) := by
 obtain ⟨h1, h2, h3⟩ := h
 have hd : dlen (nrm (terms 6 t)) ≤ 5 := by
  rw [dlen_le_iff]
  have e4 : (4294967296 : Nat) ^ 4 = 340282366920938463463374607431768211456 := by decide
  have e5 : (4294967296 : Nat) ^ 5 = 1461501637330902918203684832716283019655932542976 := by decide
  rw [e4] at h2
  rw [e5]
  omega
 refine ⟨⟨by omega, by omega, by omega, fun s hs k => ?_⟩, hd, fun s hs k => ?_⟩
 ·have := h3 s hs k; omega
 ·have := h3 s hs k; omega
theorem deg_of_mem {B : Nat} {l : List Tm} (h : ∀ s ∈ l, ∀ k, s.2.get k ≤ B) : Deg B l := fun m hm k => by
 obtain ⟨s, hs, rfl⟩ : ∃ s ∈ l, s.2 = m := Classical.byContradiction fun hc => hm (coefAt_zero fun t ht e => hc ⟨t, ht, e⟩)
 exact h s hs k
theorem CRx.small {M : Nat → Prop} {w : World} {y : PE} {l r : List Tm} (h : CRx M w 4 y l) (hn : nrm l ≤ nrm r) (hL : dlen (nrm r) ≤ 5) (hD : Deg 66 l) : ∃ t : RT 5, RR M w 5 t (.int .i64 y.lv) (.bool y.b) (.slice y.a y.n y.p) (.slice y.ka y.kn y.kp) ∧ Sim (terms 5 t) l ∧ 2 * szE 2 5 t + 2 + 4 ≤ 1099511627776 := by
 obtain ⟨t, h1, h2, h3, h4⟩ := h
 refine ⟨t, h1, h4, ?_⟩
 have h5 := can_szE 2 66 5 5 t h2 h1.ok (sim_deg h4 hD) (Nat.le_trans (dlen_mono (Nat.le_trans (can_nrm h2 h4) hn)) hL)
 have h6 : (Go.Proofs.YtodiphjjdheoaaaGreat.lev 5 t).toNat ≤ 4 := by
  have := can_lev h2
  show t.1.toNat ≤ 4; omega
 have h7 := szB_mono 2 66 5 h6
 have h8 : szB 2 66 5 4 = 182581366 := by decide
 omega
end Go.Proofs.YtodiphjjdheoaaaGreat

namespace Go.Proofs.YtodiphjjdheoaaaGreat
open Go.RowKit

theorem box77 {M : Nat → Prop} {w : World} (hM : Mb M w) (A : Array Value) (hA : A.size = 7) : Ext w ((w.alloc (.cells A 32)).alloc (.cells mzA 32)) ∧ Blk ((w.alloc (.cells A 32)).alloc (.cells mzA 32)) w.heap.size 32 7 (arr A) ∧
  Blk ((w.alloc (.cells A 32)).alloc (.cells mzA 32)) (w.heap.size + 1) 32 7 (arr mzA) ∧ Mb (Mx M w.heap.size (w.heap.size + 2)) ((w.alloc (.cells A 32)).alloc (.cells mzA 32)) := by
 have h1 := Blk.of_arr (w.alloc (.cells A 32)) mzA 32 7 rfl
 simp only [World.size_alloc] at h1
 exact ⟨((Ext.refl w).alloc _).alloc _, (Blk.of_arr w A 32 7 hA).alloc _, h1, Mx.mb hM (by simp; omega) (by simp)⟩
def My7 (g : Nat) (r : Int) (x : PE) (w : World) : Prop := Mx7 g r x w ∧ w.cell? ⟨g, 6, none⟩ = some (.slice none 0 0)
theorem My7.ext {g : Nat} {r : Int} {x : PE} {w w' : World} (h : My7 g r x w) (he : Ext w w') : My7 g r x w' := by
 have hb := World.block_lt_of_cell? _ _ h.2
 exact ⟨h.1.ext he, by rw [he.cell hb]; exact h.2⟩
end Go.Proofs.YtodiphjjdheoaaaGreat

namespace Go.Proofs.YtodiphjjdheoaaaGreat
open Go.RowKit

section
variable {P : Program} {ops : Array Oper} {Q : Exit → Act → World → Prop} {md : Region.Mode} {S : World → Prop} {last : Nat}
end
def jx (x : Nat → I4) : Nat → Value := fun j => if j % 2 = 0 then .bool (x (j / 2)).b else .slice (x (j / 2)).a (x (j / 2)).n (x (j / 2)).p
theorem jx0 (x : Nat → I4) (i : Nat) : jx x (i * 2) = .bool (x i).b := by unfold jx; rw [if_pos (by omega), show i * 2 / 2 = i by omega]
theorem jx1 (x : Nat → I4) (i : Nat) : jx x (i * 2 + 1) = .slice (x i).a (x i).n (x i).p := by unfold jx; rw [if_neg (by omega), show (i * 2 + 1) / 2 = i by omega]
theorem jx_app (x : Nat → I4) (n : Nat) (t : I4) (j : Nat) (hj : j < (n + 1) * 2) : app (jx x) (n * 2) (arr (iA t)) j = jx (snoc x n t) j := by
 unfold app
 by_cases h : j < n * 2
 ·rw [if_pos h]; unfold jx; rw [snoc_lt _ _ _ _ (by omega)]
 ·rw [if_neg h]
  obtain ⟨r, rfl, hr⟩ : ∃ r, j = n * 2 + r ∧ r < 2 := ⟨j - n * 2, by omega, by omega⟩
  rw [Nat.add_sub_cancel_left]
  match r, hr with
  | 0, _ => rw [Nat.add_zero, jx0, snoc_at]; rfl
  | 1, _ => rw [jx1, snoc_at]; rfl
theorem one_i4 (x : I4) (j : Nat) (hj : j < 2) : (arr (iA x) j).oneCell' = true := by
 match j, hj with
 | 0, _ => rfl
 | 1, _ => rfl
set_option maxRecDepth 100000 in
set_option maxHeartbeats 4000000 in
theorem rf_integers (M : Nat → Prop) (y : Nat → Int) (w : World) (hM : Mb M w) (hy : ∀ i, i < 4 → (-32768 ≤ y i ∧ y i ≤ 32767)) :
  Calls Tryz.prog 13 #[.agg #[.int .i16 (y 0), .int .i16 (y 1), .int .i16 (y 2), .int .i16 (y 3)]] w fun e w' => ∃ a cap X, e = .returned (.slice a 4 cap) ∧ IRow M w' a cap X y ∧ Ext w w' := by
 obtain ⟨i0, hi, hz0, hz1, hz2⟩ := info_parts Tryz.info26
 have hE := (Ext.refl w).alloc (.cells #[.int .i16 (y 0), .int .i16 (y 1), .int .i16 (y 2), .int .i16 (y 3)] 34)
 have hB := Blk.of_arr w #[.int .i16 (y 0), .int .i16 (y 1), .int .i16 (y 2), .int .i16 (y 3)] 34 4 rfl
 have hM2 : Mb M (w.alloc (.cells #[.int .i16 (y 0), .int .i16 (y 1), .int .i16 (y 2), .int .i16 (y 3)] 34)) := hM.ext hE
 generalize hW : w.alloc (.cells #[.int .i16 (y 0), .int .i16 (y 1), .int .i16 (y 2), .int .i16 (y 3)] 34) = W at *
 have HW := Lib.hid hW
 have HE := Lib.hid hE
 have HB := Lib.hid hB
 have HM := Lib.hid hM2
 have HY := Lib.hid hy
 clear hW hE hB hM2 hy
 go_enter Tryz.func13, Tryz.ntmps13
 go_upto_region 1 with (fail)
 rw [HW.out]
 go_wp2
 go_loopw [5, 3] (fun i v wr => ∃ (k : Nat) (X : Nat → I4), k ≤ 4 ∧ i = .int .i64 k ∧ Own wr W.heap.size 26 2 v k (jx X) ∧ Hid (∀ j, j < k → IntV (MR M v) wr (.bool (X j).b) (.slice (X j).a (X j).n (X j).p) (y j)) ∧ Hid (Ext W wr)) (fun i _ _ => 4 - (intOf i).toNat)
 case atStart => exact ⟨0, fun _ => ⟨false, none, 0, 0⟩, by omega, rfl, Own.nil _ _ _ _ _, fun j hj => absurd hj (Nat.not_lt_zero _), Ext.refl _⟩
 case round =>
  obtain ⟨k, X, hk, rfl, hO, HX, HER⟩ := hrel
  obtain ⟨va, vc, rfl⟩ := hO.form
  have hsz := HER.out.size
  by_cases hlt : k < 4
  ·have c0 : wr.cell? ⟨w.heap.size, k, none⟩ = some (.int .i16 (y k)) := by
    rw [(HB.out.ext HER.out).cell hlt]
    rcases (show k = 0 ∨ k = 1 ∨ k = 2 ∨ k = 3 by omega) with rfl | rfl | rfl | rfl <;> rfl
   obtain ⟨hy1, hy2⟩ := HY.out k hlt
   have kw : IntKind.i64.wrap (y k) = y k := IntWalk.i64_in _ (by omega)
   have hkI : (k : Int) < 4 := by omega
   have hMR : Mb (MR M (.slice va k vc)) wr := fun g hg => hg.elim (fun h => (HM.out.ext HER.out) g h) (fun h => (hO.lt g h).2)
   have CTR := Lib.hid (int_of (y k) wr hMR (by omega) (by omega))
   go_wp2_with (fail)
   refine CTR.out.mono ?_
   rintro e w1 ⟨d0, d1, rfl, hc, he1⟩
   obtain ⟨b5, a5, n5, p5, rfl, rfl⟩ := hc.form
   have hs1 := he1.size
   have hO5 := (hO.ext he1).ext ((Ext.refl _).alloc (.cells #[.bool b5, .slice a5 n5 p5] 26))
   have hB5 := Blk.of_arr w1 #[.bool b5, .slice a5 n5 p5] 26 2 rfl
   have HONE := Lib.hid (one_i4 ⟨b5, a5, n5, p5⟩)
   have HE1 := Lib.hid (he1.trans ((Ext.refl _).alloc (.cells #[.bool b5, .slice a5 n5 p5] 26)))
   have HC := Lib.hid (hc.toV.ext ((Ext.refl _).alloc (.cells #[.bool b5, .slice a5 n5 p5] 26)))
   clear he1 CTR c0 hc
   go_wp2_with (at_builtin; refine wpList_append_fn _ rfl (.tmp 8) (.tmp 14) _ rfl W.heap.size 26 i0 _ 2 32 Tryz.underlying37 hi hz0 hz1 hz2 rfl (by omega) (.slice va k vc) k (jx X) rfl hO5 w1.heap.size 26 1 (arr #[.bool b5, .slice a5 n5 p5]) rfl hB5 HONE.out ?s1 ?s2 ?s3 ?_)
   case s1 => unfold maxLen; omega
   case s2 => omega
   case s3 => simp; omega
   intro gg cap2 w2 hO6 hg6 hat hlt6
   have HF : Hid (Ext W w2) := (HER.out.trans HE1.out).grown hg6 (fun g hg => (hO.lt g hg).1)
   have hO7 := hO6.congr fun j hj => jx_app X k ⟨b5, a5, n5, p5⟩ j hj
   have HX2 : Hid (∀ j, j < k + 1 → IntV (MR M (.slice (some ⟨gg, 0, none⟩) (k + 1) cap2)) w2 (.bool (snoc X k ⟨b5, a5, n5, p5⟩ j).b) (.slice (snoc X k ⟨b5, a5, n5, p5⟩ j).a (snoc X k ⟨b5, a5, n5, p5⟩ j).n (snoc X k ⟨b5, a5, n5, p5⟩ j).p) (y j)) := by
    have hgM : ∀ {c0 c1 : Value} {z : Int}, IntV (MR M (.slice va k vc)) (w1.alloc (.cells #[.bool b5, .slice a5 n5 p5] 26)) c0 c1 z → IntV (MR M (.slice (some ⟨gg, 0, none⟩) (k + 1) cap2)) w2 c0 c1 z := by
     intro c0 c1 z h
     refine ((h.more (M' := fun g => MR M (.slice va k vc) g ∨ g = gg) fun g hg => ?_).kp (Kp.grown hg6 fun g hg => .inl (.inr hg))).more fun g hg => .inl ?_
     ·rcases hg with hg | rfl
      ·exact .inl hg
      ·exact hat.imp (fun h => .inr h) (fun h => by simp only [World.size_alloc]; omega)
     ·rcases hg with hg | hg
      ·exact .inl (.inl hg)
      ·simp only [Value.ownBlock, Option.some.injEq] at hg
       exact .inr hg.symm
    intro j hj
    by_cases h : j = k
    ·subst h; rw [snoc_at]; exact hgM HC.out
    ·rw [snoc_lt _ _ _ _ (by omega)]; exact hgM ((HX.out j (by omega)).ext HE1.out)
   clear hO6 hg6 hat hO5 hB5 hO HX
   go_wp2
   go_roundw
   case rel => exact ⟨k + 1, snoc X k ⟨b5, a5, n5, p5⟩, by omega, by go_num, hO7, HX2, HF⟩
   case measure => simp [intOf]; omega
  ·obtain rfl : k = 4 := by omega
   have HI : Hid (IRow M wr va vc X y) := by
    rcases hO with ⟨h, h0⟩ | ⟨g, cap', F, h1, hg, hB', hcc, hcm, hF⟩
    ·omega
    ·simp only [Value.slice.injEq, true_and] at h1
     obtain ⟨rfl, rfl⟩ := h1
     refine ⟨hcm, hcc, g, 0, rfl, hB'.lt, fun i hi => ⟨⟨?_, ?_⟩, (HX.out i hi).more fun g hg => .inl (.inl hg)⟩⟩
     ·rw [Nat.zero_add, hB'.cell (by omega), hF _ (by omega), jx0]
     ·rw [Nat.zero_add, hB'.cell (by omega), hF _ (by omega), jx1]
   clear hO
   go_wp2
   go_ret
   exact ⟨va, vc, X, rfl, HI.out, HE.out.trans HER.out⟩
end Go.Proofs.YtodiphjjdheoaaaGreat

namespace Go.Proofs.YtodiphjjdheoaaaGreat
open Go.RowKit

def C7 (g : Nat) (v0 v1 v2 v3 v4 v5 v6 : Value) (w : World) : Prop := w.cell? ⟨g, 0, none⟩ = some v0 ∧ w.cell? ⟨g, 1, none⟩ = some v1 ∧ w.cell? ⟨g, 2, none⟩ = some v2 ∧ w.cell? ⟨g, 3, none⟩ = some v3 ∧ w.cell? ⟨g, 4, none⟩ = some v4 ∧ w.cell? ⟨g, 5, none⟩ = some v5 ∧ w.cell? ⟨g, 6, none⟩ = some v6
theorem C7.ext {g : Nat} {v0 v1 v2 v3 v4 v5 v6 : Value} {w w' : World} (h : C7 g v0 v1 v2 v3 v4 v5 v6 w) (he : Ext w w') : C7 g v0 v1 v2 v3 v4 v5 v6 w' := by
 have hb := World.block_lt_of_cell? _ _ h.1
 unfold C7
 rw [he.cell hb, he.cell hb, he.cell hb, he.cell hb, he.cell hb, he.cell hb, he.cell hb]; exact h
def CQ (g : Nat) (y : Nat → Int) (w : World) : Prop := w.cell? ⟨g, 0, none⟩ = some (.int .i16 (y 0)) ∧ w.cell? ⟨g, 1, none⟩ = some (.int .i16 (y 1)) ∧ w.cell? ⟨g, 2, none⟩ = some (.int .i16 (y 2)) ∧ w.cell? ⟨g, 3, none⟩ = some (.int .i16 (y 3))
theorem CQ.ext {g : Nat} {y : Nat → Int} {w w' : World} (h : CQ g y w) (he : Ext w w') : CQ g y w' := by
 have hb := World.block_lt_of_cell? _ _ h.1
 unfold CQ
 rw [he.cell hb, he.cell hb, he.cell hb, he.cell hb]; exact h
def SS2 (J G : Nat) (v0 v1 v2 v3 v4 v5 v6 : Value) (r : Int) (x : PE) (w : World) : Prop := C7 J v0 v1 v2 v3 v4 v5 v6 w ∧ C7 G (.int .i64 2) (.int .i64 r) (.int .i64 x.lv) (.bool x.b) (.slice x.a x.n x.p) (.slice x.ka x.kn x.kp) (.slice none 0 0) w
theorem SS2.ext {J G : Nat} {v0 v1 v2 v3 v4 v5 v6 : Value} {r : Int} {x : PE} {w w' : World} (h : SS2 J G v0 v1 v2 v3 v4 v5 v6 r x w) (he : Ext w w') : SS2 J G v0 v1 v2 v3 v4 v5 v6 r x w' := ⟨h.1.ext he, h.2.ext he⟩
def SS1 (J P : Nat) (r : Int) (y x : PE) (w : World) : Prop := C7 J (.int .i64 2) (.int .i64 r) (.int .i64 y.lv) (.bool y.b) (.slice y.a y.n y.p) (.slice y.ka y.kn y.kp) (.slice none 0 0) w ∧ P4 w P x
theorem SS1.ext {J P : Nat} {r : Int} {y x : PE} {w w' : World} (h : SS1 J P r y x w) (he : Ext w w') : SS1 J P r y x w' := ⟨h.1.ext he, h.2.ext he⟩
def SR2 (J G : Nat) (r r' : Int) (w : World) : Prop := w.cell? ⟨J, 1, none⟩ = some (.int .i64 r) ∧ w.cell? ⟨G, 1, none⟩ = some (.int .i64 r')
theorem SR2.ext {J G : Nat} {r r' : Int} {w w' : World} (h : SR2 J G r r' w) (he : Ext w w') : SR2 J G r r' w' := by
 have b1 := World.block_lt_of_cell? _ _ h.1
 have b2 := World.block_lt_of_cell? _ _ h.2
 exact ⟨by rw [he.cell b1]; exact h.1, by rw [he.cell b2]; exact h.2⟩
end Go.Proofs.YtodiphjjdheoaaaGreat
