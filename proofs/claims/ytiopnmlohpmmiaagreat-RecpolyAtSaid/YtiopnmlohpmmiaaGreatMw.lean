/- recpoly: Uni. sparse: Degree; cylinderlaw22: alone. RecpolyUni: the arguments; sizes. -/
import Derived.Test.YtiopnmlohpmmiaaGreatMv
set_option linter.unusedVariables false
set_option linter.unusedSimpArgs false

namespace Go.Proofs.YtiopnmlohpmmiaaGreat
open Go.RowKit

/-- what Uni returns -/
def RetUE (M : Nat → Prop) (w : World) (L : Nat) (l : List Tm) (e : Ending) (w' : World) : Prop :=
  (OnlyL L l ∧ ∃ a n X z, e = .returned (.tuple #[.slice a n n, .int .i64 0]) ∧ URow M w' a n n X z ∧ Sim l (upl L n z) ∧ Ext w w') ∨
  (¬ OnlyL L l ∧ e = .returned (.tuple #[.slice none 0 0, .int .i64 12]) ∧ Ext w w')
end Go.Proofs.YtiopnmlohpmmiaaGreat

namespace Go.Proofs.YtiopnmlohpmmiaaGreat
open Go.RowKit

theorem dgM_xls (L n : Nat) (z : Nat → Int) (x : Nat → TE) : dgM L ((xls (n + 1) z x).map (·.2)) = max (dgM L ((xls n z x).map (·.2))) ((x n).m.get L) := by
  rw [xls_succ, List.map_append, show List.map (·.2) [(z n, (x n).m)] = [(x n).m] from rfl, dgM_snoc]
theorem dgM_xls0 (L : Nat) (z : Nat → Int) (x : Nat → TE) : dgM L ((xls 0 z x).map (·.2)) = 0 := rfl
theorem teA_get (t : TE) (j : Nat) (hj : j < 4) : arr (teA t) (2 + j) = .int .i64 (t.m.get (j + 1)) := by
  unfold arr teA Mo.get
  rcases (show j = 0 ∨ j = 1 ∨ j = 2 ∨ j = 3 by omega) with rfl | rfl | rfl | rfl <;> rfl
set_option maxRecDepth 100000 in
set_option maxHeartbeats 4000000 in
theorem sp_degree_ok (M : Nat → Prop) (v : Value) (l : List Tm) (j : Nat) (w : World) (hM : Mb M w) (hP : PolyV M w v l) (hD : dlen (nrm l) ≤ 1099511627776) (hj : j < 4) :
    Calls Tryz.prog 33 #[v, .int .i64 ((j : Int) + 1)] w fun e w' => e = .returned (.int .i64 (dgP ((j + 1 : Nat) : Int) (norm l))) ∧ Ext w w' := by
  have CTR := Lib.hid (sp_normal M v l w hM hP hD)
  have hlev : isLevB ((j : Int) + 1) = true := by unfold isLevB; simp; omega
  have HLV : Hid (isLevB ((j + 1 : Nat) : Int) = true) := hlev
  have HJ := Lib.hid hj
  clear hM hP hD
  go_enter Tryz.func33, Tryz.ntmps33
  go_wp2_with (fail)
  refine CTR.out.mono ?_
  rintro e w1 ⟨u, rfl, hO, he1⟩
  obtain ⟨n, z, x, hX, hl, _⟩ := hO.x
  obtain ⟨ua, uc, rfl⟩ := hX.form
  have hnL := hX.1
  have HX := Lib.hid hX
  have HL := Lib.hid hl
  have HE1 := Lib.hid he1
  clear hO hX hl he1 CTR
  by_cases hn0 : n = 0
  · subst hn0
    go_wp2
    go_ret
    exact ⟨by rw [HL.out]; rfl, HE1.out⟩
  · have hn0' : (n == 0) = false := by simp [hn0]
    have HDG : Hid (dgP ((j + 1 : Nat) : Int) (norm l) = dgM (j + 1) ((xls n z x).map (·.2))) := by
      show dgP ((j + 1 : Nat) : Int) (norm l) = _
      unfold dgP
      rw [HL.out, if_neg (fun e => hn0 (by have := congrArg List.length e; rw [xls_len] at this; exact this)), if_pos HLV.out]
      rfl
    have ctr := sp_isLevel ((j : Int) + 1) w1
    rw [hlev] at ctr
    have CTR := Lib.hid ctr
    clear ctr
    go_wp2_with (fail)
    refine CTR.out.mono ?_
    rintro e w2 ⟨rfl, rfl⟩
    clear CTR
    have HD0 : Hid (Value.int .i64 0 = .int .i64 (dgM (j + 1) ((xls 0 z x).map (·.2)))) := by rw [dgM_xls0]; exact rfl
    go_wp2
    go_loopw [6, 20] (fun d i wr => ∃ k : Nat, k ≤ n ∧ i = .int .i64 k ∧ d = .int .i64 (dgM (j + 1) ((xls k z x).map (·.2))) ∧ Ext w1 wr) (fun _ i _ => n - (intOf i).toNat)
    case atStart => exact ⟨0, Nat.zero_le _, rfl, HD0.out, Ext.refl _⟩
    case round =>
      obtain ⟨k, hk, rfl, rfl, her⟩ := hrel
      by_cases hlt : k < n
      · obtain ⟨b, off, rfl, hnc, hcm, hb, x0, x1, x2, x3, x4, x5⟩ := (HX.out.ext her).at k hlt
        have hMX := Lib.hid (dgM_xls (j + 1) k z x)
        have hEa : Ext wr (wr.alloc (.cells (teA (x k)) 131)) := (Ext.refl wr).alloc _
        have hBa := Blk.of_arr wr (teA (x k)) 131 6 rfl
        have c0 := hBa.cell (i := 2 + j) (by omega)
        rw [teA_get _ _ hj] at c0
        have hlta := hBa.lt
        have HER := Lib.hid (her.trans hEa)
        clear her hEa hBa
        generalize hWA : wr.alloc (.cells (teA (x k)) 131) = WA at *
        unfold teA at hWA
        have HWA := Lib.hid hWA
        clear hWA
        unfold maxLen at hcm
        have j1 : ((j : Int) + 1 - 1) = (j : Int) := by omega
        have j2 : (0 : Int) ≤ (j : Int) := by omega
        have j3 : (j : Int) < 4 := by omega
        go_upto_region 10 with (fail)
        rw [HWA.out]
        clear x0 x1 x2 x3 x4 x5
        generalize dgM (j + 1) (List.map (fun x => x.2) (xls k z x)) = dk at *
        go_wp2
        go_roundw
        case rel => exact ⟨k + 1, by omega, by go_num, by rw [hMX.out], HER.out⟩
        case measure => simp [intOf]; omega
      · have hkn : k = n := by omega
        subst hkn
        have HF := Lib.hid (HE1.out.trans her)
        clear her
        rw [← HDG.out]
        go_wp2
        go_ret
        exact ⟨rfl, HF.out⟩
/-- a truth value is returned -/
def RetBE (p : Prop) (w : World) (e : Ending) (w' : World) : Prop := ∃ b : Bool, e = .returned (.bool b) ∧ (b = true ↔ p) ∧ Ext w w'
theorem RetBE.f {p : Prop} {w w' : World} (h : ¬ p) (he : Ext w w') : RetBE p w (.returned (.bool false)) w' := ⟨false, rfl, ⟨fun e => (by cases e), fun e => absurd e h⟩, he⟩
def AloneU (lv : Int) (l : List Tm) (j : Nat) : Prop := ∀ t ∈ l, ∀ k : Nat, 1 ≤ k → k ≤ j → (k : Int) ≠ lv → ¬ 0 < t.2.get k
end Go.Proofs.YtiopnmlohpmmiaaGreat

namespace Go.Proofs.YtiopnmlohpmmiaaGreat
open Go.ChangeShapes Go.WideShapes Go.ChangeAt Go.RowKit Go.Deep

/-- a row of integers by its cells, of which each with few digits is a number -/
def URaw (W : World) (a : Option Addr) (n cap : Nat) (X : Nat → IE) : Prop :=
  n ≤ cap ∧ cap ≤ maxLen ∧ (a = none → cap = 0) ∧ ∀ i, i < n → ∃ b off, a = some ⟨b, off, none⟩ ∧ b < W.heap.size ∧ W.cell? ⟨b, off + i * 2, none⟩ = some (.bool (X i).b) ∧ W.cell? ⟨b, off + i * 2 + 1, none⟩ = some (.slice (X i).a (X i).n (X i).p) ∧ IRaw W (X i).a (X i).n (X i).p
section
variable {H : Type} {enc : TypeId × Value → H} {W : World}
set_option linter.constructorNameAsVariable false in
set_option maxRecDepth 10000 in
theorem open_i64 {base : Nat} {v : Value} {d : DataW H} {ps : List MemPlace} (hv : Value.okWide Tryz.prog W .any base 3 v) (h : DataW.Trod enc Tryz.prog W 0 (fun _ => true) true 3 v d ps) : ∃ z : Int, v = .int .i64 z ∧ (-9223372036854775808 ≤ z ∧ z ≤ 9223372036854775807) := by
  obtain ⟨fuel, h⟩ := h
  obtain ⟨y, rfl⟩ := okWide_int Tryz.underlying3 hv
  obtain ⟨z, hz, _, hw⟩ := DataW.trod_int Tryz.underlying3 h
  have hz' : [Value.int .i64 y] = [.int .i64 z] := hz
  simp [Lit.wf, IntKind.min, IntKind.max, IntKind.signed, IntKind.bits] at hw
  exact ⟨z, by simpa using hz', by omega, by omega⟩
end
/-- what the law's tests let by -/
theorem URaw.row {W : World} {a : Option Addr} {n cap : Nat} {X : Nat → IE} (h : URaw W a n cap X) (hn : n ≤ 10) (hX : ∀ i, i < n → (X i).n ≤ 6) : ∃ z, URow M0 W a n cap X z ∧ ∀ i, i < n → (z i).natAbs ≤ 4294967296 ^ 6 := by
  obtain ⟨h1, h2, h3, h4⟩ := h
  have hall : ∀ i, i < n → ∃ z : Int, IntV M0 W (.bool (X i).b) (.slice (X i).a (X i).n (X i).p) z ∧ z.natAbs ≤ 4294967296 ^ 6 := fun i hi => by
    obtain ⟨b, off, _, _, _, _, h5⟩ := h4 i hi
    obtain ⟨d, hd⟩ := h5.2 (by have := hX i hi; omega)
    refine ⟨sgn (X i).b (nv d (X i).n), ⟨(X i).b, nv d (X i).n, rfl, ⟨_, d, hd, rfl⟩, rfl⟩, ?_⟩
    rw [sgn_natAbs]
    exact Nat.le_trans (Nat.le_of_lt (nv_lt d _ hd.2.1)) (Nat.pow_le_pow_right (by omega) (hX i hi))
  obtain ⟨z, hz⟩ := pick 0 hall
  refine ⟨z, ⟨by omega, h1, h2, h3, fun i hi => ?_⟩, fun i hi => (hz i hi).2⟩
  obtain ⟨b, off, e, hb, c0, c1, _⟩ := h4 i hi
  exact ⟨b, off, e, hb, fun h => h, c0, c1, (hz i hi).1⟩
end Go.Proofs.YtiopnmlohpmmiaaGreat
