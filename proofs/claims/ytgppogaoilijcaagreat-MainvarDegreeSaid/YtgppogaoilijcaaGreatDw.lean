/- Regions that draw their order, inside a round of a range over a function; gathers while an iterator runs. -/
import Derived.Test.YtgppogaoilijcaaGreatMm
import Derived.Test.YtgppogaoilijcaaGreatDe
import Derived.Test.YtgppogaoilijcaaGreatNe
import Derived.RangeFuncNested
import Derived.RangeFuncCalls
import Derived.OwnWalkIn
import Derived.OrdersIn
set_option linter.unusedVariables false
set_option linter.unusedSimpArgs false

namespace Go.Proofs.YtgppogaoilijcaaGreat
open Go.RowKit

section
variable {P : Program} {ops : Array Oper} {Q : Exit → Act → World → Prop} {md : Region.Mode} {S : World → Prop} {last l n : Nat}
theorem wpIn_of_wpR {o : Oper} {a : Act} {w : World} {K : Act → World → Prop} (hd : ∀ c, o.op ≠ .defer c) (h : Oper.wp P o a w K Q) : Oper.wpIn (Fence.wide.inRound l) n P o a w K Q := by
  refine ⟨fun _ _ => trivial, ?_⟩
  rw [Oper.semAt_plain _ _ _ hd]
  unfold Oper.wp at h
  generalize (execOp a.eval o).run P w = r at *
  cases r with
  | ok x w' =>
    cases x with
    | enter f args => exact ⟨(fun h => by cases h), callsIn_wide.2 h⟩
    | row row args => exact ⟨(fun h => by cases h), fun c cs _ => let ⟨v, w', r, s⟩ := h c cs; ⟨v, w', r, stepsIn_wide.2 s⟩⟩
    | round l f tmps assign body => exact False.elim h
    | _ => exact h
  | halt x w' => cases x <;> exact h
def noDefer (ops : Array Oper) : Bool := ops.all fun o => match o.op with | .defer _ => false | _ => true
theorem noDefer_spec (h : noDefer ops = true) {i : Nat} {o : Oper} (hi : ops[i]? = some o) : ∀ c, o.op ≠ .defer c := by
  intro c e
  unfold noDefer at h
  rw [Array.all_eq_true] at h
  obtain ⟨hlt, rfl⟩ := Array.getElem?_eq_some_iff.1 hi
  have := h i hlt
  rw [e] at this
  cases this
theorem wpAnyIn_of_uR (hd : noDefer ops = true) (hlo : ¬ LetsOut Q) : ∀ (fuel : Nat) (listed : Array Bool) (a : Act) (w : World), wpAnyU P md ops Q S last fuel listed a w → wpAnyIn (Fence.wide.inRound l) n P md ops Q fuel listed a w
  | 0, _, _, _, h => h
  | fuel + 1, listed, a, w, h => ⟨h.1, fun i hi => by
    have h2 := h.2 i hi
    have h3 := wpOp_mono (fun a' w' h' => wpAnyIn_of_uR hd hlo fuel _ a' w' h'.2) h2
    unfold wpOp at h3
    unfold wpOpIn
    cases ho : ops[i]? with
    | none => rw [ho] at h3; exact h3
    | some o =>
      rw [ho] at h3
      simp only at h3 ⊢
      split
      · rename_i hw
        rw [if_pos hw] at h3
        exact wpIn_of_wpR (noDefer_spec hd ho) (h3.resolve_right fun h => hlo h.2)
      · rename_i hw
        rw [if_neg hw] at h3
        exact ⟨fun _ _ => trivial, h3⟩⟩
theorem wp_region_uR (S : World → Prop) (last : Nat) {id : Nat} {a : Act} {w : World} (hm : P.follows .mixedOrders = true) (hd : noDefer ops = true) (hlo : ¬ LetsOut Q) (hS : S w.drew)
    (h : S w.drew → wpAnyU P .any ops Q S last ops.size (Array.replicate ops.size false) a w.drew) : (Code.region id ops true).wpIn (Fence.wide.inRound l) n P Q a w :=
  wpIn_region_any hm (wpAnyIn_of_uR hd hlo _ _ _ _ (h hS))
end
theorem GAcc.grown {M : Nat → Prop} {base g r B : Nat} {W W' : World} {L : List Tm} {row : Option Nat} (h : GAcc M base W g L) (hc : W.cell? ⟨g, 0, none⟩ = some (.map (some r))) (hrB : r < B) (hg : W.grownBy W' row) (hr : ∀ k, row = some k → B ≤ k ∧ ∃ o : Obj, W.heap[k]? = some o ∧ o.isCells = false) : GAcc M base W' g L := by
  obtain ⟨n, z, m, ⟨r', tv, c0, c1, h1, h2, h3, h4, h5, h6, h7, h8, h9, h10⟩, k2⟩ := h
  have hr' := fun k e => (hr k e).2
  have e1 := h1.cell (i := 0) (by omega)
  rw [e1] at hc
  obtain rfl : r' = r := by simpa [arr] using hc
  refine ⟨n, z, m, ⟨r', tv, c0, c1, h1.grownN hg hr', h2, h3, h4, h5, h6, h7.of_heap (hg.block r' h7.lt (fun e => by have := (hr r' e.symm).1; omega)), h8.of_heap (fun b hb => ?_), fun i hi => (h9 i hi).grown hg hr', h10⟩, k2⟩
  rcases h8 with ⟨rfl, _⟩ | ⟨g', cap, F, rfl, hb', hB, _⟩
  · cases hb
  · cases hb
    refine hg.block _ hB.lt (fun e => ?_)
    obtain ⟨o, ho, hno⟩ := hr' _ e.symm
    obtain ⟨cur, hcur, _⟩ := hB
    rw [hcur] at ho; cases ho; cases hno
section
variable {F : Fence} {n : Nat} {P : Program} {α : Type}
def SeqP (F : Fence) (n : Nat) (P : Program) (g : Nat) (lb : Array Value) (enc : α → Array Value) (Zs : List α → World → Prop) (Live : List α → α → World → Prop) (Kp : World → World → Prop) (S : List α → Prop) (w : World) : Prop :=
  ∀ (l : Nat) (J : List α → World → Prop) (W : World), Below w.heap.size w W → AbidesFrom W.heap.size J → (∀ pre W1, J pre W1 → Zs pre W1) →
    (∀ pre x W1, J pre W1 → Live pre x W1 → YieldAt F (n - 1) P l (enc x) W1 fun e W' => e = .returned (.bool true) ∧ J (pre ++ [x]) W' ∧ Kp W1 W') →
    J [] W → CallsIn F n P g (#[.func (.yield l) #[] #[]] ++ lb) W fun e W' => (∃ v, e = .returned v) ∧ ∃ xs, S xs ∧ J xs W'
theorem wpIn_rangeFunc_pre {g : Operand} {ps : Array Tmp} {assign body : Code} {Q : Exit → Act → World → Prop} {a : Act} {w w0 : World}
    (hro : F.round = none) (h1 : 1 ≤ n) {gf : Nat} {lb : Array Value} (hg : a.eval g = .func (.func gf) #[] lb) (hFg : F.fn gf) (eg : ∀ args w, (callFunc gf args).run P w = .ok (.enter gf args) w)
    {enc : α → Array Value} {Zs : List α → World → Prop} {Live : List α → α → World → Prop} {Kp : World → World → Prop} {S : List α → Prop} (hseq : SeqP F (n - 1) P gf lb enc Zs Live Kp S w0) (hb0 : Below w0.heap.size w0 w) (hps : ∀ x, (enc x).size = ps.size)
    (hKt : ∀ {A B C : World}, Kp A B → Kp B C → Kp A C) (hKp : ∀ (W : World) (l : Nat) (o : Obj), w.heap.size ≤ l → Kp W (W.putObj l o))
    (I : List α → World → Prop) (hI : OwnFrom w.heap.size I) (hIZ : ∀ pre W, I pre W → Zs pre W) (Ax : List α → α → Act → World → Prop) (hAx : ∀ pre x a', OwnFrom w.heap.size (fun (_ : Unit) W => Ax pre x a' W))
    (hassign : ∀ (l : Nat) (pre : List α) (x : α) (W : World) (K : Act → World → Prop), I pre W → Live pre x W → (∀ a' W', KeepsFrom w.heap.size W W' → Kp W W' → I pre W' → Ax pre x a' W' → K a' W') →
      assign.wpIn (F.inRound l) (n - 1 - 1) P (Exit.then K (fun _ _ _ => False)) { tmps := (ps.zip (enc x)).foldl (fun t (p, v) => t.setIfInBounds p v) a.tmps, defers := [] } W)
    (hbody : ∀ (l : Nat) (pre : List α) (x : α) (a' : Act) (W : World), I pre W → Ax pre x a' W → body.wpIn (F.inRound l) (n - 1 - 1) P (livePost w.heap.size Kp I (pre ++ [x]) W) a' W)
    (h0 : I [] w)
    (hdone : ∀ (D : Nat) (xs : List α) (W : World), w.heap.size ≤ D → S xs → I xs W → W.heap[D]? = some (.deferred (some [])) → Q .normal { a with defers := { target := .collected D, args := #[] } :: a.defers } W) :
    (Code.rangeFunc g ps assign body).wpIn F n P Q a w := by
  refine wpIn_rangeFunc fun fn hfn => ?_
  let R : LoopState → Loop := fun st => { state := st, pending := none, fn, tmps := a.tmps, params := ps, assign, body, defers := w.heap.size }
  let W1 := (w.alloc (.deferred (some []))).alloc (.loop (R .ready))
  have hs1 : W1.heap.size = w.heap.size + 2 := by show ((w.alloc _).alloc _).heap.size = _; simp
  have hL : LoopAt w.heap.size (R .ready) W1 := by
    have h2 := World.alloc_heap_new (w.alloc (.deferred (some []))) (.loop (R .ready))
    rw [World.size_alloc] at h2
    exact ⟨h2, (Below.heap_alloc _ _ _ (by simp)).trans (World.alloc_heap_new w _)⟩
  rw [hro]
  refine ⟨w.heap.size + 1, _, W1, { target := .fn (.func gf) lb, args := #[.func (.yield (w.heap.size + 1)) #[] #[]] }, W1, gf, #[.func (.yield (w.heap.size + 1)) #[] #[]] ++ lb, W1, run_enterLoop_outer _ _ _ _ _, ?_, ?_, ?_, fun _ => h1, ?_⟩
  · simp only [resolve, hg]; simp [go_sem]
  · intro f' hf'
    simp only [Target.leads, Option.some.injEq] at hf'
    subst hf'; exact hFg
  · simp [invoke, go_sem, eg]
  have hwalk : ∀ {A : World} {row : Option Nat}, (∀ r, row = some r → W1.heap.size ≤ r ∧ ∃ o : Obj, A.heap[r]? = some o ∧ o.isWalk = true) → ∀ r, row = some r → w.heap.size ≤ r ∧ ∃ o : Obj, A.heap[r]? = some o ∧ o.isCells = false := fun hr r e => by
    obtain ⟨hB, o, ho, hw⟩ := hr r e
    exact ⟨by omega, o, ho, Obj.not_cells_of_walk hw⟩
  refine (hseq (w.heap.size + 1) (fun pre W => I pre W ∧ LoopAt w.heap.size (R .ready) W) W1 (hb0.trans ((((Below.refl _ w).alloc (Nat.le_refl _) _).alloc (by simp) _).mono hb0.size))
    (fun s A B row hs hgr hr => ⟨hI s A B row hs.1 hgr (hwalk hr), hs.2.step hgr fun q e => (hr q e).2⟩) (fun pre W1 h => hIZ pre W1 h.1) ?_ ⟨hI.alloc _ (hI.alloc _ h0), hL⟩).mono ?_
  · rintro pre x W ⟨hi, hl⟩ hlive
    refine ⟨fn, _, assign, body, run_yield (args := enc x) hl.1 (hps x), roundIn_of_wpIn hfn (hassign _ pre x W _ hi hlive ?_)⟩
    intro a' V hkV hpV hiV hax
    have hlV := hl.keeps hkV
    refine ⟨_, run_beginRound hlV.1 rfl, ?_⟩
    have hlB := hlV.put (R .busy)
    refine wpIn_mono (hbody _ pre x a' _ (hI.putObj _ hiV (by omega) hlV.1 rfl) ((hAx pre x a').putObj (s := ()) _ hax (by omega) hlV.1 rfl)) ?_
    intro e a3 W3 hp
    cases e with
    | normal =>
      obtain ⟨hk3, hp3, hi3⟩ := hp
      have hl3 := hlB.keeps hk3
      exact ⟨_, _, run_endRound none hl3.1, rfl, ⟨hI.putObj _ hi3 (by omega) hl3.1 rfl, hl3.put (R .ready)⟩, hKt hpV (hKt (hKp _ _ _ (by omega)) (hKt hp3 (hKp _ _ _ (by omega))))⟩
    | ret => exact hp.elim
    | exit id => exact hp.elim
    | goto t => exact hp.elim
    | panic ch => exact hp.elim
    | outgrown => exact hp.elim
  · rintro e W2 ⟨⟨v, rfl⟩, xs, hS, hi, hl⟩
    exact ⟨none, _, run_endLoop hl.1 (by intro h; cases h), hdone _ xs _ (Nat.le_refl _) hS (hI.putObj _ hi (by omega) hl.1 rfl) ((World.putObj_heap_other (by omega)).trans hl.2)⟩
end
def YcPre (X : Nat → Prop) (Zs : World → Nat → Prop) (L : List Tm) (pre : List Yc) (x : Yc) (W : World) : Prop := YcLive (fun b => X b ∨ Zs W b) L x W ∧ ∃ k, k < L.length ∧ ycL (pre ++ [x]) = L.take (k + 1)
def ZsOk (X : Nat → Prop) (Zs : World → Nat → Prop) (w : World) (_ : List Yc) (W : World) : Prop := ∀ b, Zs W b → b < W.heap.size ∧ (b < w.heap.size → X b)
set_option maxRecDepth 100000 in
set_option maxHeartbeats 4000000 in
theorem terms_pre (X : Nat → Prop) (Zs : World → Nat → Prop) (w : World) (hZm : ∀ W W' b, w.heap.size ≤ W.heap.size → Ext W W' → Zs W' b → Zs W b) (cb : Nat) (u : Value) (L : List Tm) (hM : Mb X w) (hc : w.cell? ⟨cb, 0, none⟩ = some u) (hX : ¬ X cb) (hP : PolyV X w u L) :
    SeqP Fence.wide 2 Tryz.prog 130 #[.pointer (some ⟨cb, 0, none⟩)] ycA (ZsOk X Zs w) (YcPre X Zs L) (Kq X w.heap.size) (fun xs => ycL xs = L) w := by
  intro l J W hW hJ hZ hY h0
  have hcb := World.block_lt_of_cell? _ _ hc
  have heW : Ext w W := hW
  obtain ⟨ua, uc, rfl⟩ := hP.form
  have HY := Lib.hid hY
  have HJ := Lib.hid hJ
  have HZ := Lib.hid hZ
  have HZM := Lib.hid hZm
  have HP := Lib.hid hP
  have hcW : W.cell? ⟨cb, 0, none⟩ = some (.slice ua L.length uc) := by rw [heW.cell hcb]; exact hc
  have hll := hP.len
  have hkW : Kp X w W := Kp.of_ext heW
  clear hY hJ hW hP hc hZ hZm
  refine callsIn_wide.2 ?_
  show Calls Tryz.prog 130 #[.func (.yield l) #[] #[], .pointer (some ⟨cb, 0, none⟩)] W _
  go_enter Tryz.func130, Tryz.ntmps130
  go_wp2
  go_loopw [7] (fun i wr => ∃ (k : Nat) (pre : List Yc), k ≤ L.length ∧ i = .int .i64 k ∧ J pre wr ∧ Hid (ycL pre = L.take k) ∧ Kp X w wr) (fun i _ => L.length - (intOf i).toNat)
  case atStart => exact ⟨0, [], Nat.zero_le _, rfl, h0, (rfl : [] = []), hkW⟩
  case round =>
    clear h0 hkW hcW heW
    obtain ⟨k, pre, hk, rfl, hJp, HPR, hkr⟩ := hrel
    by_cases hlt : k < L.length
    · have hzk := HZ.out pre wr hJp
      have hkr' : Kp (fun b => X b ∨ Zs wr b) w wr := ⟨hkr.1, fun b hb hx => hkr.2 b hb fun h => hx (.inl h)⟩
      have hPr := (HP.out.more (M' := fun b => X b ∨ Zs wr b) (fun g hg => by
        rcases hg with hg | hg
        · exact .inl hg
        · rcases Nat.lt_or_ge g w.heap.size with h | h
          · exact .inl ((hzk g hg).2 h)
          · exact .inr h)).kp hkr'
      have hM2 : Mb (fun b => X b ∨ Zs wr b) wr := fun b hb => by
        rcases hb with hb | hb
        · exact Nat.lt_of_lt_of_le (hM b hb) hkr.1
        · exact (hzk b hb).1
      clear hzk hkr'
      obtain ⟨b, off, c, m, b1, a1, n1, p1, hua, hcap, hmx, hb, x0, x1, x2, x3, x4, x5, hI, hT, hmem⟩ := hPr.at (k := k) hlt
      subst hua
      have HT := Lib.hid hT
      have HMEM := Lib.hid hmem
      have hEa : Ext wr (wr.alloc (.cells #[.bool b1, .slice a1 n1 p1, .int .i64 m.a, .int .i64 m.b, .int .i64 m.c, .int .i64 m.d] 115)) := (Ext.refl wr).alloc _
      have hBt := Blk.of_arr wr #[.bool b1, .slice a1 n1 p1, .int .i64 m.a, .int .i64 m.b, .int .i64 m.c, .int .i64 m.d] 115 6 rfl
      have HI := Lib.hid hI
      clear hPr hT hmem hI
      go_upto_region 3 with (fail)
      generalize wr.alloc (.cells #[.bool b1, .slice a1 n1 p1, .int .i64 m.a, .int .i64 m.b, .int .i64 m.c, .int .i64 m.d] 115) = Wa at hEa hBt ⊢
      clear x0 x1 x2 x3 x4 x5
      have HS : Hid (STm wr.heap.size (.bool b1) (.slice a1 n1 p1) m Wa.drew) := STm.ext (w := Wa) ⟨hBt.cell (i := 0) (by omega), hBt.cell (i := 1) (by omega), hBt.cell (i := 2) (by omega), hBt.cell (i := 3) (by omega), hBt.cell (i := 4) (by omega), hBt.cell (i := 5) (by omega)⟩ (Ext.refl Wa).drew
      have hEd := hEa.trans (Ext.refl Wa).drew
      have hMd := hM2.ext hEd
      refine wp_region_y (STm wr.heap.size (.bool b1) (.slice a1 n1 p1) m) 6 (by kernel_rfl) HS.out (fun hHeld => ?_)
      ((refine wpAnyY_take 0 (oi := ?_) (v := ?_) (by kernel_rfl) (by kernel_rfl) (by kernel_rfl) (by kernel_rfl) (by kernel_rfl) (by kernel_rfl) (by first | exact hSn | exact hHeld) ?_ ?_ ?_ ?_ ?_; rotate_left 2; (simp only [List.getElem?_toArray, List.getElem?_cons_succ, List.getElem?_cons_zero]; rfl); rfl; (intro wS hSw; obtain ⟨S1, S2, S3, S4, S5, S6⟩ := hSw; go_simp; try with_reducible rfl); (exact fun _ _ _ h => h); (try simp only [Act.put, List.setIfInBounds_toArray, List.set_cons_zero, List.set_cons_succ])); (refine wpAnyY_take 1 (oi := ?_) (v := ?_) (by kernel_rfl) (by kernel_rfl) (by kernel_rfl) (by kernel_rfl) (by kernel_rfl) (by kernel_rfl) (by first | exact hSn | exact hHeld) ?_ ?_ ?_ ?_ ?_; rotate_left 2; (simp only [List.getElem?_toArray, List.getElem?_cons_succ, List.getElem?_cons_zero]; rfl); rfl; (intro wS hSw; obtain ⟨S1, S2, S3, S4, S5, S6⟩ := hSw; go_simp; try with_reducible rfl); (exact fun _ _ _ h => h); (try simp only [Act.put, List.setIfInBounds_toArray, List.set_cons_zero, List.set_cons_succ])); (refine wpAnyY_take 2 (oi := ?_) (v := ?_) (by kernel_rfl) (by kernel_rfl) (by kernel_rfl) (by kernel_rfl) (by kernel_rfl) (by kernel_rfl) (by first | exact hSn | exact hHeld) ?_ ?_ ?_ ?_ ?_; rotate_left 2; (simp only [List.getElem?_toArray, List.getElem?_cons_succ, List.getElem?_cons_zero]; rfl); rfl; (intro wS hSw; obtain ⟨S1, S2, S3, S4, S5, S6⟩ := hSw; go_simp; try with_reducible rfl); (exact fun _ _ _ h => h); (try simp only [Act.put, List.setIfInBounds_toArray, List.set_cons_zero, List.set_cons_succ])); (refine wpAnyY_take 3 (oi := ?_) (v := ?_) (by kernel_rfl) (by kernel_rfl) (by kernel_rfl) (by kernel_rfl) (by kernel_rfl) (by kernel_rfl) (by first | exact hSn | exact hHeld) ?_ ?_ ?_ ?_ ?_; rotate_left 2; (simp only [List.getElem?_toArray, List.getElem?_cons_succ, List.getElem?_cons_zero]; rfl); rfl; (intro wS hSw; obtain ⟨S1, S2, S3, S4, S5, S6⟩ := hSw; go_simp; try with_reducible rfl); (exact fun _ _ _ h => h); (try simp only [Act.put, List.setIfInBounds_toArray, List.set_cons_zero, List.set_cons_succ])); (refine wpAnyY_take 4 (oi := ?_) (v := ?_) (by kernel_rfl) (by kernel_rfl) (by kernel_rfl) (by kernel_rfl) (by kernel_rfl) (by kernel_rfl) (by first | exact hSn | exact hHeld) ?_ ?_ ?_ ?_ ?_; rotate_left 2; (simp only [List.getElem?_toArray, List.getElem?_cons_succ, List.getElem?_cons_zero]; rfl); rfl; (intro wS hSw; obtain ⟨S1, S2, S3, S4, S5, S6⟩ := hSw; go_simp; try with_reducible rfl); (exact fun _ _ _ h => h); (try simp only [Act.put, List.setIfInBounds_toArray, List.set_cons_zero, List.set_cons_succ])))
      (refine wpAnyY_one 5 (o := ?_) (by kernel_rfl) (by kernel_rfl) ?_ ?_; rotate_left 1; (simp only [List.getElem?_toArray, List.getElem?_cons_succ, List.getElem?_cons_zero]; rfl); intro K hK)
      go_simp
      refine (int_normal _ _ c _ hMd (HI.out.ext hEd)).mono ?_
      rintro e_ wz ⟨e0, e1, rfl, hr, he1⟩
      go_wp2_with (fail)
      refine hK.out _ _ (fun _ => hHeld.ext he1) ?_
      clear hK K
      (try simp only [Act.put, List.setIfInBounds_toArray, List.set_cons_zero, List.set_cons_succ])
      obtain ⟨b2, a2, n2, p2, rfl, rfl⟩ := hr.form
      have hEz := hEd.trans he1
      have hr3 := hr.more (M' := fun b => X b ∨ Zs wz b) (fun g hg => hg.elim (fun h => .inl (.inl h)) fun h => .inl (.inr (HZM.out wr wz g hkr.1 hEz h)))
      have hJz : J pre wz := HJ.out pre wr wz none hJp (hEz.grownBy none) (fun r e => by cases e)
      have HPR2 : Hid (ycL (pre ++ [(⟨b2, a2, n2, p2, m⟩, c)]) = L.take (k + 1)) := by
        show _ = _
        rw [HT.out, ← HPR.out]; simp [ycL]
      obtain ⟨fn, tmps, assign, body, hy, hR⟩ := HY.out pre (⟨b2, a2, n2, p2, m⟩, c) wz hJz ⟨⟨hr3, HMEM.out⟩, k, hlt, HPR2.out⟩
      (refine wpAnyY_yield (o := ?_) (by kernel_rfl) ?_ ?_; rotate_left 1; (simp only [List.getElem?_toArray, List.getElem?_cons_succ, List.getElem?_cons_zero]; rfl); intro K hK)
      rw [if_pos (by rfl)]
      refine ⟨fun _ _ => trivial, ?_⟩
      rw [Fence.wide_round, Oper.semAt_none]
      go_simp
      clear hy
      refine hR.mono ?_
      have hkz : Kp X w wz := hkr.trans (Kp.of_ext hEz)
      rintro e_ wy ⟨rfl, hJy, hky⟩
      have hkF : Kp X w wy := ⟨Nat.le_trans hkz.1 hky.1, fun q hq hx => (hky.2 q hq hx).trans (hkz.2 q hq hx)⟩
      clear hR hkz hky hJz hEz hr hr3 hM2 he1 hEd hMd hHeld hEa hBt hJp hkr
      refine hK.out _ _ ?_
      clear hK K
      (try simp only [Act.put, List.setIfInBounds_toArray, List.set_cons_zero, List.set_cons_succ])
      (refine wpAnyY_one 7 (o := ?_) (by kernel_rfl) (by kernel_rfl) ?_ ?_; rotate_left 1; (simp only [List.getElem?_toArray, List.getElem?_cons_succ, List.getElem?_cons_zero]; rfl); intro K hK)
      go_simp
      refine hK.out _ _ (fun h => by cases h) ?_
      clear hK K
      (try simp only [Act.put, List.setIfInBounds_toArray, List.set_cons_zero, List.set_cons_succ])
      refine wpAnyY_done (by kernel_rfl) ?_ _
      go_wp2
      go_roundw
      case rel => exact ⟨k + 1, _, by omega, by go_num, hJy, HPR2, hkF⟩
      case measure => simp [intOf]; omega
    · have hk2 : k = L.length := by omega
      subst hk2
      have HF : Hid (ycL pre = L) := by show _ = _; rw [HPR.out, List.take_length]
      go_wp2
      go_end0
      exact ⟨⟨_, rfl⟩, pre, HF.out, hJp⟩
end Go.Proofs.YtgppogaoilijcaaGreat
