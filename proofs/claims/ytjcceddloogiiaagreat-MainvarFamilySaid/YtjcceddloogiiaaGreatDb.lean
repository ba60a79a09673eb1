/- mainvar.coefs: laws of make and copy; the state of its loops. mainvar.coefs: the walk. -/
import Derived.Test.YtjcceddloogiiaaGreatDa
set_option linter.unusedVariables false
set_option linter.unusedSimpArgs false

namespace Go.Proofs.YtjcceddloogiiaaGreat
open Go.RowKit

theorem step_make {P : Program} (w : World) {o : Oper} {a : Act} {K : Act → World → Prop} {Q : Exit → Act → World → Prop} {E : Prop} {ops : Array Oper} (hgd : o.guard = none) (lo co : Operand) (t : TypeId) (ho : o.op = .makeSlice t lo co)
  (e : TypeId) (i : TypeInfo) (z : Value) (size : Nat) (ht : P.underlying t = some (.slice e)) (hi : P.info? e = some i) (hz : i.zero = some z) (hs : i.size = size) (kl kc : IntKind) (n : Nat)
  (hl : a.eval lo = .int kl (n : Int)) (hc : a.eval co = .int kc (n : Int)) (hb : i.bytes * n ≤ 281474976710656) (h63 : n ≤ maxLen)
  (h : K (a.put o.dst (.slice (some ⟨w.heap.size, 0, none⟩) n n)) (w.alloc (.cells (madeCells z.cells (n * size)) e))) :
  if Region.wanted o (yielded ops a.tmps) = true then Oper.wp P o a w K Q else E := by
 have hw : Region.wanted o (yielded ops a.tmps) = true := by simp [Region.wanted, hgd]
 rw [if_pos hw]
 have hb' : (i.bytes : Int) * (n : Int) ≤ 281474976710656 := by
  have h : ((i.bytes * n : Nat) : Int) ≤ 281474976710656 := by omega
  rwa [Int.natCast_mul] at h
 have hr := run_make (P := P) w t e i z ht hi hz kl kc n n (by omega) (Int.le_refl _) hb' (by unfold maxLen at h63; omega)
 simp only [Int.toNat_natCast, hs] at hr
 unfold Oper.wp
 simp [execOp, ho, hl, hc, hr, Result.andThen]
 exact h
theorem wpList_makeX {P : Program} (w : World) {ops : Array Oper} {rest : List Oper} {o : Oper} {a : Act} {Q : Exit → Act → World → Prop} (hgd : o.guard = none) (lo co : Operand) (t : TypeId) (ho : o.op = .makeSlice t lo co)
  (e : TypeId) (i : TypeInfo) (z : Value) (size : Nat) (ht : P.underlying t = some (.slice e)) (hi : P.info? e = some i) (hz : i.zero = some z) (hs : i.size = size) (kl kc : IntKind) (L C : Int) (n : Nat)
  (hl : a.eval lo = .int kl L) (hc : a.eval co = .int kc C) (hL : L = (n : Int)) (hC : C = (n : Int)) (hb : i.bytes * n ≤ 281474976710656) (h63 : n ≤ maxLen)
  (h : ∀ w', Hid (w' = w.alloc (.cells (madeCells z.cells (n * size)) e)) → wpList P ops Q rest (a.put o.dst (.slice (some ⟨w.heap.size, 0, none⟩) n n)) w') :
  wpList P ops Q (o :: rest) a w := by
 refine wpList_plain hgd fun K hK => ?_
 have hb' : (i.bytes : Int) * (n : Int) ≤ 281474976710656 := by
  have h : ((i.bytes * n : Nat) : Int) ≤ 281474976710656 := by omega
  rwa [Int.natCast_mul] at h
 have hr := run_make (P := P) w t e i z ht hi hz kl kc n n (by omega) (Int.le_refl _) hb' (by unfold maxLen at h63; omega)
 simp only [Int.toNat_natCast, hs] at hr
 subst hL
 subst hC
 unfold Oper.wp
 simp [execOp, ho, hl, hc, hr, Result.andThen]
 exact hK _ _ (h _ rfl)
theorem blk_madeAlloc (w : World) (N : Nat) (e : TypeId) : Blk (w.alloc (.cells (madeCells (Value.agg #[.int .i64 0, .bool false, .slice none 0 0, .slice none 0 0]).cells (N * 4)) e)) w.heap.size e (N * 4) zc4 :=
 Blk.of_alloc w _ e zc4 (N * 4) (by simp [madeCells]) fun i hi => by
  rw [← zc4_arr i]
  have hm : i % 4 < 4 := Nat.mod_lt _ (by decide)
  simp [madeCells, hi, arr, Array.getD_eq_getD_getElem?, hm, Value.cells]
theorem wpList_copy_part {P : Program} {w : World} {ops : Array Oper} {rest : List Oper} {o : Oper} {a : Act} {Q : Exit → Act → World → Prop} (hgd : o.guard = none) (d s : Operand) (dT sT : TypeId)
  (ho : o.op = .call { callee := .builtin .copy, args := #[d, s], argTypes := #[dT, sT] }) (elem : TypeId) (hu : P.underlying dT = some (.slice elem)) (z : Nat) (hsz : (P.info? elem).map (·.size) = some z)
  (N k dCap sCap : Nat) (g b off : Nat) (hd : a.eval d = .slice (some ⟨g, 0, none⟩) N dCap) (hs : a.eval s = .slice (some ⟨b, off, none⟩) k sCap) (hk : k ≤ N)
  (t : TypeId) (f : Nat → Value) (hB : Blk w g t (N * z) f) (src : Nat → Value) (hsrc : ∀ j, j < k * z → w.cell? ⟨b, off + j, none⟩ = some (src j))
  (h1 : ∀ j, j < k * z → (src j).oneCell' = true)
  (h : ∀ w', Blk w' g t (N * z) (over f 0 (k * z) src) → w.grownBy w' (some g) → wpList P ops Q rest (a.put o.dst (goInt k)) w') :
  wpList P ops Q (o :: rest) a w := by
 have hkz : k * z ≤ N * z := Nat.mul_le_mul_right _ hk
 obtain ⟨cur, hg, hcs, hb⟩ := hB.splice 0 (k * z) src (by omega)
 refine wpList_plain hgd fun K hK => ?_
 have hmin : Nat.min k N = k := Nat.min_eq_left hk
 have hl := run_loadCells_list (P := P) w ⟨b, off, none⟩ ((List.range (k * z)).map src) (fun j v hv => by
  simp only [List.getElem?_map, Option.map_eq_some_iff] at hv
  obtain ⟨x, hx, rfl⟩ := hv
  have hlt := (List.getElem?_eq_some_iff.1 hx).1
  simp only [List.length_range] at hlt
  rw [List.getElem?_range hlt] at hx
  cases hx
  rw [addr_add]; exact hsrc j hlt)
 have hst := run_storeCells_at P g 0 t ((List.range (k * z)).map src) 0 cur w hg (by simp; omega) (fun v hv => by
  simp only [List.mem_map, List.mem_range] at hv
  obtain ⟨j, hj, rfl⟩ := hv
  exact h1 j hj)
 simp only [List.length_map, List.length_range] at hl hst
 cases hq : P.info? elem with
 | none => simp [hq] at hsz
 | some i =>
  have hi : i.size = z := by simpa [hq] using hsz
  unfold Oper.wp
  simp only [execOp, ho, resolve, invoke, builtin, Sem.run_bind, Sem.run_pure, List.map_toArray, List.map_cons, List.map_nil, hd, hs]
  simp [Builtin.copy_, run_underlying hu, Builtin.lenOf, Builtin.firstCells, sizeOf, typeInfo, hq, hi, hmin, hl, hst]
  refine hK _ _ (h _ ?_ ?_)
  ·simpa [List.append_assoc] using hb
  ·exact grownBy_setRow _ _ _
theorem p4_heap {w' wr : World} {b : Nat} {x : PE} (h : P4 wr b x) (he : w'.heap[b]? = wr.heap[b]?) : P4 w' b x := by
 have hc := fun o => World.cell?_of_block (w := wr) (w' := w') (a := ⟨b, o, none⟩) he
 obtain ⟨p0, p1, p2, p3⟩ := h
 exact ⟨(hc 0).trans p0, (hc 1).trans p1, (hc 2).trans p2, (hc 3).trans p3⟩
theorem CfT.ref {M : Nat → Prop} {w : World} {d E B : Nat} {e0 e1 e2 e3 : Value} {S R R' : List Tm} (h : CfT M w d E B e0 e1 e2 e3 S R) (hR : nrm R ≤ nrm R') : CfT M w d E B e0 e1 e2 e3 S R' := by
 obtain ⟨u, h1, h2, h3, h4, h5, h6⟩ := h
 exact ⟨u, h1, h2, h3, h4, Nat.le_trans h5 hR, h6⟩
theorem CKids.of_copy {M : Nat → Prop} {w : World} {d E B g n k : Nat} {xx : Nat → PE} {S : Nat → List Tm} {R : List Tm} (hB : Blk w g 33 (n * 4) (over zc4 0 (k * 4) (px xx))) (hk : k ≤ n)
  (h : ∀ i, i < k → CfT M w d E B (.int .i64 (xx i).lv) (.bool (xx i).b) (.slice (xx i).a (xx i).n (xx i).p) (.slice (xx i).ka (xx i).kn (xx i).kp) (S i) R) : CKids M w d E B g n (fun i => if i < k then S i else []) (fun _ => R) := by
 refine ⟨_, hB, fun i hi => ?_⟩
 by_cases hik : i < k
 ·have e : ∀ r, r < 4 → over zc4 0 (k * 4) (px xx) (i * 4 + r) = px xx (i * 4 + r) := fun r hr => by unfold over; rw [if_pos ⟨by omega, by omega⟩, Nat.sub_zero]
  have e0 := e 0 (by omega)
  rw [Nat.add_zero] at e0
  rw [e0, e 1 (by omega), e 2 (by omega), e 3 (by omega), px0, px1, px2, px3]
  simp only [if_pos hik]; exact h i hik
 ·have e : ∀ r, r < 4 → over zc4 0 (k * 4) (px xx) (i * 4 + r) = zc4 (i * 4 + r) := fun r hr => by unfold over; rw [if_neg (by omega)]
  have e0 := e 0 (by omega)
  rw [Nat.add_zero] at e0
  have h0 : zc4 (i * 4) = .int .i64 0 := by unfold zc4; rw [if_pos (by omega)]
  have h1 : zc4 (i * 4 + 1) = .bool false := by unfold zc4; rw [if_neg (by omega), if_pos (by omega)]
  have h2 : zc4 (i * 4 + 2) = .slice none 0 0 := by unfold zc4; rw [if_neg (by omega), if_neg (by omega)]
  have h3 : zc4 (i * 4 + 3) = .slice none 0 0 := by unfold zc4; rw [if_neg (by omega), if_neg (by omega)]
  rw [e0, e 1 (by omega), e 2 (by omega), e 3 (by omega), h0, h1, h2, h3]
  simp only [if_neg hik]; exact CfT.zero _ _ _ _ _ _
theorem px_cells {w : World} {b off N : Nat} {xx : Nat → PE} (h : ∀ i, i < N → KCell w b (off + i * 4) (xx i)) (j : Nat) (hj : j < N * 4) : w.cell? ⟨b, off + j, none⟩ = some (px xx j) := by
 obtain ⟨i, r, rfl, hr⟩ : ∃ i r, j = i * 4 + r ∧ r < 4 := ⟨j / 4, j % 4, by omega, by omega⟩
 obtain ⟨h0, h1, h2, h3⟩ := h i (by omega)
 match r, hr with
 | 0, _ => rw [Nat.add_zero, px0]; exact h0
 | 1, _ => rw [px1, ← Nat.add_assoc]; exact h1
 | 2, _ => rw [px2, ← Nat.add_assoc]; exact h2
 | 3, _ => rw [px3, ← Nat.add_assoc]; exact h3
theorem px_ones (xx : Nat → PE) (j : Nat) : (px xx j).oneCell' = true := by
 unfold px
 split
 ·rfl
 ·split
  ·rfl
  ·split <;> rfl
def LRow (w : World) (g m k : Nat) (h : Nat → Nat) (lv : Int) (N : Nat) : Prop := ∃ F, Blk w g 33 (m * 4) F ∧ ∀ i, i < k → F (i * 4) = .int .i64 lv ∧ F (i * 4 + 1) = .bool false ∧ F (i * 4 + 2) = .slice none 0 0 ∧ F (i * 4 + 3) = .slice (some ⟨h i, 0, none⟩) N N
theorem LRow.ext {w w' : World} {g m k : Nat} {h : Nat → Nat} {lv : Int} {N : Nat} (hr : LRow w g m k h lv N) (he : Ext w w') : LRow w' g m k h lv N := by
 obtain ⟨F, h1, h2⟩ := hr; exact ⟨F, h1.ext he, h2⟩
theorem LRow.heap {w w' : World} {g m k : Nat} {h : Nat → Nat} {lv : Int} {N : Nat} (hr : LRow w g m k h lv N) (he : w'.heap[g]? = w.heap[g]?) : LRow w' g m k h lv N := by
 obtain ⟨F, h1, h2⟩ := hr; exact ⟨F, h1.of_heap he, h2⟩
theorem LRow.set {w : World} {g m k : Nat} {h : Nat → Nat} {lv : Int} {N : Nat} (hr : LRow w g m k h lv N) : LRow (set4 w g (k * 4) (.int .i64 lv) (.bool false) (.slice none 0 0) (.slice (some ⟨h k, 0, none⟩) N N)) g m (k + 1) h lv N := by
 obtain ⟨F, h1, h2⟩ := hr
 refine ⟨_, h1.set4 _ _ _ _ _, fun i hi => ?_⟩
 by_cases hik : i = k
 ·subst hik; exact ⟨upd4_0 _ _ _ _ _ _, upd4_1 _ _ _ _ _ _, upd4_2 _ _ _ _ _ _, upd4_3 _ _ _ _ _ _⟩
 ·rw [upd4_ne _ _ _ _ _ _ _ (by omega), upd4_ne _ _ _ _ _ _ _ (by omega), upd4_ne _ _ _ _ _ _ _ (by omega), upd4_ne _ _ _ _ _ _ _ (by omega)]; exact h2 i (by omega)
theorem LRow.at {w : World} {g m k : Nat} {h : Nat → Nat} {lv : Int} {N : Nat} (hr : LRow w g m k h lv N) (j : Nat) (hj : j < m) : (∃ e, w.cell? ⟨g, j * 4, none⟩ = some e) ∧ (∃ e, w.cell? ⟨g, j * 4 + 1, none⟩ = some e) ∧ (∃ e, w.cell? ⟨g, j * 4 + 2, none⟩ = some e) ∧ (∃ e, w.cell? ⟨g, j * 4 + 3, none⟩ = some e) ∧ (∀ o, w.frozen? ⟨g, o, none⟩ = false) ∧ g < w.heap.size := by
 obtain ⟨F, h1, h2⟩ := hr
 exact ⟨⟨_, h1.cell (by omega)⟩, ⟨_, h1.cell (by omega)⟩, ⟨_, h1.cell (by omega)⟩, ⟨_, h1.cell (by omega)⟩, h1.frozen, h1.lt⟩
theorem LRow.c3 {w : World} {g m k : Nat} {h : Nat → Nat} {lv : Int} {N : Nat} (hr : LRow w g m k h lv N) (hk : k ≤ m) (j : Nat) (hj : j < k) : w.cell? ⟨g, j * 4 + 3, none⟩ = some (.slice (some ⟨h j, 0, none⟩) N N) := by
 obtain ⟨F, h1, h2⟩ := hr
 rw [h1.cell (by omega), (h2 j hj).2.2.2]
structure CoI (M : Nat → Prop) (w : World) (L d E B n N : Nat) (P : Nat → List Tm) (x : PE) (wr : World) (c : Nat → Nat) : Prop where
 sz : w.heap.size + 3 + n ≤ wr.heap.size
 ext : Ext w wr
 p4 : P4 wr w.heap.size x
 row : LRow wr (w.heap.size + 1) (n + 1) (n + 1) (fun i => w.heap.size + 2 + i) x.lv N
 kids : ∀ i, i < n + 1 → CKids (Mx M w.heap.size (w.heap.size + 3 + n)) wr d E B (w.heap.size + 2 + i) N (fun j => if j < c i then ck L (i : Int) (P j) else []) P
section
variable {M : Nat → Prop} {w wr w' : World} {L d E B n N : Nat} {P : Nat → List Tm} {x : PE} {c : Nat → Nat}
theorem CoI.grow (h : CoI M w L d E B n N P x wr c) (he : Ext wr w') : CoI M w L d E B n N P x w' c :=
 ⟨Nat.le_trans h.sz he.size, h.ext.trans he, h.p4.ext he, h.row.ext he, fun i hi => (h.kids i hi).ext he⟩
theorem CoI.mb (h : CoI M w L d E B n N P x wr c) (hM : Mb M w) : Mb (Mx M w.heap.size (w.heap.size + 3 + n)) wr := Mx.mb hM h.ext.size h.sz
theorem CoI.store (h : CoI M w L d E B n N P x wr c) (i : Nat) (hi : i < n + 1) (k : Nat) (hk : k < N) (hc : c i = k) {e0 e1 e2 e3 : Value} (hy : CfT (Mx M w.heap.size (w.heap.size + 3 + n)) wr d E B e0 e1 e2 e3 (ck L (i : Int) (P k)) (P k)) :
  CoI M w L d E B n N P x (set4 wr (w.heap.size + 2 + i) (k * 4) e0 e1 e2 e3) (fun j => if j = i then k + 1 else c j) := by
 have hMg : Mx M w.heap.size (w.heap.size + 3 + n) (w.heap.size + 2 + i) := Mx.at (by omega)
 refine ⟨by rw [size_set4]; exact h.sz, h.ext.set4 (by omega) _ _ _ _ _, p4_heap h.p4 (heap_set4 _ _ _ _ _ _ _ _ (by omega)), h.row.heap (heap_set4 _ _ _ _ _ _ _ _ (by omega)), fun j hj => ?_⟩
 by_cases hij : j = i
 ·subst hij
  refine ((h.kids j hj).set hMg k hk hy).congr fun q hq => ?_
  simp only [if_true]
  by_cases h1 : q = k
  ·rw [if_pos h1, if_pos (by omega), h1]; exact Sim.refl _
  ·rw [if_neg h1]
   by_cases h2 : q < c j
   ·rw [if_pos h2, if_pos (by omega)]; exact Sim.refl _
   ·rw [if_neg h2, if_neg (by omega)]; exact Sim.refl _
 ·simp only [if_neg hij]
  exact (h.kids j hj).kp (heap_set4 _ _ _ _ _ _ _ _ (by omega)) (Kp.set4 hMg _ _ _ _ _)
theorem CoI.congr {c' : Nat → Nat} (h : CoI M w L d E B n N P x wr c) (hc : ∀ i, i < n + 1 → c i = c' i) : CoI M w L d E B n N P x wr c' :=
 ⟨h.sz, h.ext, h.p4, h.row, fun i hi => by rw [← hc i hi]; exact h.kids i hi⟩
theorem CoI.done {l : List Tm} {E2 : Nat} (h : CoI M w L d E B n N P x wr c) (hM : Mb M w) (hc : ∀ i, i < n + 1 → c i = N) (hlv : x.lv = (E : Int) + 1) (hE : E + 1 ≤ 4) (hE2 : E + 1 ≤ E2) (hL1 : 1 ≤ L) (hL : L ≤ E) (hN : N ≤ B + 1) (hNL : N ≤ 1099511627776) (hs : Sim (poly (E + 1) N P) l) (hn : nrm (poly (E + 1) N P) ≤ nrm l) :
  CKids (fun b => M b ∨ b = w.heap.size + 1) wr (d + 1) E2 B (w.heap.size + 1) (n + 1) (fun i => ck L (i : Int) l) (fun _ => l) := by
 obtain ⟨F, hB, hF⟩ := h.row
 refine ⟨F, hB, fun i hi => ?_⟩
 obtain ⟨f0, f1, f2, f3⟩ := hF i hi
 rw [f0, f1, f2, f3, hlv]
 refine (((h.kids i hi).node (M' := fun b => M b ∨ b = w.heap.size + 1) (r := l) (fun b hb => .inl (hb.imp id fun hb => by omega)) ?_ hE hN hNL hn).wide hE2).sim ?_
 ·rintro (hm | he)
  ·have := hM _ hm; omega
  ·omega
 ·refine (poly_congr _ _ _ _ fun j hj => ?_).trans ((ck_node (N := N) (P := P) hL1 (by omega) hE (by omega) (i : Int)) ▸ ck_sim hs)
  rw [hc i hi, if_pos hj]; exact Sim.refl _
end
end Go.Proofs.YtjcceddloogiiaaGreat

namespace Go.Proofs.YtjcceddloogiiaaGreat
open Go.RowKit

def SCo (g o h N gz : Nat) (z : PE) (w : World) : Prop := w.cell? ⟨g, o, none⟩ = some (.slice (some ⟨h, 0, none⟩) N N) ∧ P4 w gz z
def RetCo (M : Nat → Prop) (w : World) (d E B n L : Nat) (l : List Tm) (e : Ending) (w' : World) : Prop := ∃ g, e = .returned (.slice (some ⟨g, 0, none⟩) (n + 1) (n + 1)) ∧ w.heap.size ≤ g ∧ CKids (fun b => M b ∨ b = g) w' d E B g (n + 1) (fun i => ck L (i : Int) l) (fun _ => l) ∧ Ext w w'
def CoefsCtr (L E : Nat) : Prop := ∀ (d : Nat), E ≤ d → ∀ (M : Nat → Prop) (l : List Tm) (x : PE) (n B : Nat) (w : World), Mb M w → CRx M w E x l → Deg B l → (∀ m, coefAt l m ≠ 0 → m.get L ≤ n) → n + 1 ≤ 1099511627776 → Calls Tryz.prog 145 #[.agg (peA x), .int .i64 (L : Int), .int .i64 (n : Int)] w (RetCo M w d E B n L l)
set_option maxRecDepth 100000 in
set_option maxHeartbeats 8000000 in
theorem coefs_walk (L : Nat) (hL1 : 1 ≤ L) (hL4 : L ≤ 4) (E : Nat) (ih : ∀ E', E' < E → CoefsCtr L E') : CoefsCtr L E := by
 intro d hEd M l x n B w hM h hB hn hnL
 obtain ⟨i0, hi, hz0, hz1, hz2⟩ := info_parts Tryz.info33
 have hE0 := (Ext.refl w).alloc (.cells (peA x) 33)
 have hB0 := Blk.of_arr w (peA x) 33 4 rfl
 obtain ⟨x0, x1, x2, x3⟩ := hB0.p4
 have hsz0 : w.heap.size + 1 = (w.alloc (.cells (peA x) 33)).heap.size := by simp
 have hnI : (n : Int) + 1 ≤ 1099511627776 := by omega
 have hn0 : (0 : Int) ≤ (n : Int) := Int.natCast_nonneg _
 generalize hW : w.alloc (.cells (peA x) 33) = W at *
 have HW := Lib.hid hW
 have HE0 := Lib.hid hE0
 have HP0 := Lib.hid hB0.p4
 have HM := Lib.hid hM
 have HX := Lib.hid h
 have HDB := Lib.hid hB
 have HN := Lib.hid hn
 have HED := Lib.hid hEd
 clear hW hE0 hB0 hM h hB hn hEd
 go_enter Tryz.func145, Tryz.ntmps145
 go_upto_region 1 with (fail)
 rw [HW.out]
 go_wp2_with (first | (at_make; refine wpList_makeX _ rfl _ _ _ rfl 33 i0 (.agg #[.int .i64 0, .bool false, .slice none 0 0, .slice none 0 0]) 4 Tryz.underlying24 hi hz0 hz1 .i64 .i64 _ _ (n + 1) rfl rfl ?c4 ?c5 ?c2 ?c3 ?_))
 case c2 => rw [hz2]; omega
 case c3 => unfold maxLen; omega
 case c4 => simp
 case c5 => simp
 have hBk := blk_madeAlloc W (n + 1) 33
 have he1 := (Ext.refl W).alloc (.cells (madeCells (Value.agg #[.int .i64 0, .bool false, .slice none 0 0, .slice none 0 0]).cells ((n + 1) * 4)) 33)
 have hs1 : (W.alloc (.cells (madeCells (Value.agg #[.int .i64 0, .bool false, .slice none 0 0, .slice none 0 0]).cells ((n + 1) * 4)) 33)).heap.size = w.heap.size + 2 := by simp; omega
 intro w1 hw1
 replace hw1 : W.alloc (.cells (madeCells (Value.agg #[.int .i64 0, .bool false, .slice none 0 0, .slice none 0 0]).cells ((n + 1) * 4)) 33) = w1 := hw1.out.symm
 rw [hw1] at hBk he1 hs1
 rw [← hsz0] at hBk ⊢
 have HP1 := Lib.hid (HP0.out.ext he1)
 have HE1 := Lib.hid (HE0.out.trans he1)
 have HBK := Lib.hid hBk
 clear x0 x1 x2 x3 hBk he1 HP0 HE0 HW hsz0 hw1
 obtain ⟨x0, x1, x2, x3⟩ := HP1.out
 by_cases h1 : x.lv < L
 ·have hlow : ∀ m, coefAt l m ≠ 0 → m.get L = 0 := fun m hm => HX.out.lowc m hm L h1 hL4
  have HS0 : Hid (∀ i, i < n + 1 → Sim (if i = 0 then l else []) (ck L (i : Int) l)) := fun i _ => by
   by_cases hi0 : i = 0
   ·subst hi0; rw [if_pos rfl]; exact (ck_zero_low hL1 hL4 hlow).symm
   ·rw [if_neg hi0]; exact (ck_pos_low hL1 hL4 (by omega) hlow).symm
  have hK0 : CKids (fun b => M b ∨ b = w.heap.size + 1) w1 d E B (w.heap.size + 1) (n + 1) (fun _ => []) (fun _ => l) := CKids.fresh HBK.out
  obtain ⟨⟨_, k0⟩, ⟨_, k1⟩, ⟨_, k2⟩, ⟨_, k3⟩, hfr, hg1⟩ := hK0.at 0 (by omega)
  have hf0 := hfr 0
  have hf1 := hfr 1
  have hf2 := hfr 2
  have hf3 := hfr 3
  rw [Nat.zero_mul] at k0 k1 k2 k3
  simp only [Nat.zero_add] at k1 k2 k3
  have hx : CfT (fun b => M b ∨ b = w.heap.size + 1) w1 d E B (.int .i64 x.lv) (.bool x.b) (.slice x.a x.n x.p) (.slice x.ka x.kn x.kp) l l := ((CfT.of_cr HX.out HED.out HDB.out).more (M' := fun b => M b ∨ b = w.heap.size + 1) (fun b hb => hb.imp id fun hb => by omega)).ext HE1.out
  have HF : Hid (RetCo M w d E B n L l (.returned (.slice (some ⟨w.heap.size + 1, 0, none⟩) (n + 1) (n + 1))) (set4 w1 (w.heap.size + 1) (0 * 4) (.int .i64 x.lv) (.bool x.b) (.slice x.a x.n x.p) (.slice x.ka x.kn x.kp))) := ⟨_, rfl, by omega, (hK0.set (.inr rfl) 0 (by omega) hx).congr HS0.out, HE1.out.set4 (by omega) _ _ _ _ _⟩
  clear hlow hK0 hfr hx HS0
  rw [Nat.zero_mul] at HF
  go_wp2
  exact bodyPost_ret (v := .slice (some ⟨w.heap.size + 1, 0, none⟩) (n + 1) (n + 1)) (by simp [results, Tryz.results145, go_sem]) rfl HF.out
 ·obtain ⟨E', b, off, P, hlv, hE4, hEL, hb0, hn0', hka, hn2, hnL', hnc, hcm, hb, hMb, hlow, hnz, hsim, hnr, hkid⟩ := HX.out.node (by omega)
  have h1b : decide (x.lv < (L : Int)) = false := decide_eq_false h1
  by_cases h2 : x.lv = L
  ·obtain rfl : L = E' + 1 := by omega
   have h2b : (x.lv == ((E' + 1 : Nat) : Int)) = true := by rw [h2]; simp
   have hNn : x.kn ≤ n + 1 := by
    obtain ⟨q, hq1, hq2⟩ := (dg_top hE4 (by omega) hlow hnz).2.resolve_left (by omega)
    rw [hsim q] at hq1
    have := HN.out q hq1
    omega
   obtain ⟨xx, hxx⟩ := pick PE.z (n := x.kn) (Q := fun i y => KCell w b (off + i * 4) y ∧ CRx M w E' y (P i)) fun i hi => by
    obtain ⟨y, hy1, hy2, _⟩ := hkid i hi
    exact ⟨y, hy1, hy2⟩
   have hdn := deg_node hE4 (by omega) hlow hnz (HDB.out.sim hsim.symm)
   have HC : Hid (∀ w2, Ext w w2 → ∀ i, i < x.kn → CfT (fun b => M b ∨ b = w.heap.size + 1) w2 d E B (.int .i64 (xx i).lv) (.bool (xx i).b) (.slice (xx i).a (xx i).n (xx i).p) (.slice (xx i).ka (xx i).kn (xx i).kp) (P i) l) := fun w2 he i hi =>
    (((CfT.of_cr ((hxx i hi).2.up (show E' ≤ E by omega)) HED.out (hdn.2 i hi)).ref (Nat.le_trans (nrm_poly_kid (E' + 1) x.kn P i hi) hnr)).more (M' := fun b => M b ∨ b = w.heap.size + 1) (fun b hb => hb.imp id fun hb => by omega)).ext he
   have HS : Hid (∀ i, i < n + 1 → Sim (if i < x.kn then P i else []) (ck (E' + 1) (i : Int) l)) := fun i _ => (ck_poly hE4 hlow i).symm.trans (ck_sim hsim)
   have hsrc : ∀ j, j < x.kn * 4 → w1.cell? ⟨b, off + j, none⟩ = some (px xx j) := px_cells fun i hi => ((hxx i hi).1).ext hb HE1.out
   have HSRC := Lib.hid hsrc
   clear hsrc hdn hxx hkid hlow hnz hsim hnr
   rw [hka] at x3
   go_wp2_with (first | (refine wpList_copy_part rfl _ _ _ _ rfl 33 Tryz.underlying24 4 ?c1 (n + 1) x.kn _ _ (w.heap.size + 1) b off rfl rfl hNn 33 zc4 HBK.out (px xx) HSRC.out (fun j _ => px_ones xx j) ?_))
   intro w2 hB2 hg2
   have he2 : Ext w w2 := HE1.out.grown hg2 (fun q hq => by cases hq; omega)
   have HF : Hid (RetCo M w d E B n (E' + 1) l (.returned (.slice (some ⟨w.heap.size + 1, 0, none⟩) (n + 1) (n + 1))) w2) := ⟨_, rfl, by omega, (CKids.of_copy hB2 hNn (HC.out w2 he2)).congr HS.out, he2⟩
   clear hB2 hg2 he2 HC HS HSRC
   go_wp2
   exact bodyPost_ret (v := .slice (some ⟨w.heap.size + 1, 0, none⟩) (n + 1) (n + 1)) (by simp [results, Tryz.results145, go_sem]) rfl HF.out
  ·have h2b : (x.lv == (L : Int)) = false := by simp [h2]
   obtain ⟨d', rfl⟩ : ∃ d', d = d' + 1 := ⟨d - 1, by have := HED.out; omega⟩
   have hd' : E' ≤ d' := by have := HED.out; omega
   have hdn := deg_node hE4 (by omega) hlow hnz (HDB.out.sim hsim.symm)
   have HCALL : Hid (∀ j, j < x.kn → ∃ y, KCell w b (off + j * 4) y ∧ ∀ (M' : Nat → Prop) W2, Mb M' W2 → (∀ g, M' g → M g ∨ w.heap.size ≤ g) → Ext w W2 → Calls Tryz.prog 145 #[.agg (peA y), .int .i64 (L : Int), .int .i64 (n : Int)] W2 (RetCo M' W2 d' E' B n L (P j))) := fun j hj => by
    obtain ⟨y, hy1, hy2, _⟩ := hkid j hj
    exact ⟨y, hy1, fun M' W2 h1 h2 h3 => ih E' (by omega) d' hd' M' (P j) y n B W2 h1 ((hy2.more h2).ext h3) (hdn.2 j hj) (fun m hm => by
     have hk := kid_coef hE4 hlow hj hm
     rw [hsim _] at hk
     have := HN.out _ hk
     rw [get_add, get_xp _ _ _ (by omega) hE4, if_neg (by omega)] at this
     omega) hnL⟩
   have HDONE : Hid (∀ wr c, CoI M w L d' E' B n x.kn P x wr c → (∀ i, i < n + 1 → c i = x.kn) → RetCo M w (d' + 1) E B n L l (.returned (.slice (some ⟨w.heap.size + 1, 0, none⟩) (n + 1) (n + 1))) wr) := fun wr c hc hcn => ⟨_, rfl, by omega, hc.done HM.out hcn hlv hE4 hEL hL1 (by omega) hdn.1 hnL' hsim hnr, hc.ext⟩
   have hkn : x.kn ≤ 1099511627776 := hnL'
   have hcb : i0.bytes * x.kn ≤ 281474976710656 := by rw [hz2]; omega
   have HLR : Hid (LRow w1 (w.heap.size + 1) (n + 1) 0 (fun i => w.heap.size + 2 + i) x.lv x.kn) := ⟨_, HBK.out, fun i hi => absurd hi (Nat.not_lt_zero _)⟩
   clear hdn hkid hlow hnz hsim hnr ih HX HDB HN HED hd' hnc hcm HBK hMb hb0 hn0' hEL
   rw [hka] at x3
   have HLV := Lib.hid hlv
   have HCB := Lib.hid hcb
   have HKA := Lib.hid hka
   clear hlv hka hcb
   go_wp2
   go_loopw [18] (fun i wr => ∃ k : Nat, k ≤ n + 1 ∧ i = .int .i64 k ∧ wr.heap.size = w.heap.size + 2 + k ∧ Hid (Ext w wr) ∧ Hid (P4 wr w.heap.size x) ∧ Hid (LRow wr (w.heap.size + 1) (n + 1) k (fun i => w.heap.size + 2 + i) x.lv x.kn) ∧ Hid (∀ i, i < k → CKids (Mx M w.heap.size (w.heap.size + 3 + n)) wr d' E' B (w.heap.size + 2 + i) x.kn (fun _ => []) P)) (fun i _ => n + 1 - (intOf i).toNat)
   case atStart => exact ⟨0, Nat.zero_le _, rfl, hs1, HE1, HP1, HLR, fun i hi => absurd hi (Nat.not_lt_zero _)⟩
   case round =>
    clear x0 x1 x2 x3 hs1 HE1 HP1 HLR
    obtain ⟨k, hk, rfl, hsz, HE, HP, HLR, HK⟩ := hrel
    by_cases hlt : k < n + 1
    ·have hltI : (k : Int) < (n : Int) + 1 := by omega
     clear HCALL HDONE
     go_upto_region 5 with (fail)
     have hPd : P4 wr.drew w.heap.size x := HP.out.ext (Ext.refl wr).drew
     have HE2 := Lib.hid (HE.out.trans (Ext.refl wr).drew)
     have HLR2 := Lib.hid (HLR.out.ext (Ext.refl wr).drew)
     have HK2 : Hid (∀ i, i < k → CKids (Mx M w.heap.size (w.heap.size + 3 + n)) wr.drew d' E' B (w.heap.size + 2 + i) x.kn (fun _ => []) P) := fun i hi => (HK.out i hi).ext (Ext.refl wr).drew
     have hszd : wr.drew.heap.size = w.heap.size + 2 + k := hsz
     clear HE HLR HK HP hsz
     refine wp_region_u (fun W => P4 W w.heap.size x) 10 (by kernel_rfl) hPd (fun hHeld => ?_)
     clear hPd
     generalize wr.drew = wd at *
     (refine tkB [0, 1, 2, 3, 4, 5, 6] ?_; (iterate 7 (refine tk1 (oi := ?_) (v := ?_) (by kernel_rfl) (by first | exact hSn | exact hHeld) ?_ ?_ ?_ ?_ ?_; rotate_left 2; (simp only [xgA, xgB, xgC]; rfl); rfl; (intro wS hSw; obtain ⟨S1, S2, S3, S4⟩ := hSw; go_simp; try with_reducible rfl); (exact fun _ _ _ h => h); (try simp only [Act.put, xgD, xgE, xgF]))); refine tkE ?_)
     (refine wpAnyU_one 7 (o := ?_) (by kernel_rfl) ?_ ?_; rotate_left 1; (simp only [xgA, xgB, xgC]; rfl); intro K hK)
     refine step_make _ rfl _ _ _ rfl 33 i0 (.agg #[.int .i64 0, .bool false, .slice none 0 0, .slice none 0 0]) 4 Tryz.underlying24 hi hz0 hz1 .i64 .i64 x.kn rfl rfl HCB.out (by unfold maxLen; omega) ?_
     have hBm := blk_madeAlloc wd x.kn 33
     have hEm := (Ext.refl wd).alloc (.cells (madeCells (Value.agg #[.int .i64 0, .bool false, .slice none 0 0, .slice none 0 0]).cells (x.kn * 4)) 33)
     have hsm : (wd.alloc (.cells (madeCells (Value.agg #[.int .i64 0, .bool false, .slice none 0 0, .slice none 0 0]).cells (x.kn * 4)) 33)).heap.size = w.heap.size + 2 + (k + 1) := by simp; omega
     rw [hszd] at hBm
     rw [show wd.heap.size = w.heap.size + 2 + k from hszd]
     generalize wd.alloc (.cells (madeCells (Value.agg #[.int .i64 0, .bool false, .slice none 0 0, .slice none 0 0]).cells (x.kn * 4)) 33) = W2 at *
     try clear hSn
     have hSn : P4 W2 w.heap.size x := hHeld.ext hEm
     refine hK.out _ _ (fun _ => hSn) ?_
     clear hK K
     (try simp only [Act.put, xgD, xgE, xgF])
     (refine tkB [8, 9] ?_; (iterate 2 (refine tk1 (oi := ?_) (v := ?_) (by kernel_rfl) (by first | exact hSn | exact hHeld) ?_ ?_ ?_ ?_ ?_; rotate_left 2; (simp only [xgA, xgB, xgC]; rfl); rfl; (intro wS hSw; obtain ⟨S1, S2, S3, S4⟩ := hSw; go_simp; try with_reducible rfl); (exact fun _ _ _ h => h); (try simp only [Act.put, xgD, xgE, xgF]))); refine tkE ?_)
     have hLR3 := HLR2.out.ext hEm
     obtain ⟨⟨_, k0⟩, ⟨_, k1⟩, ⟨_, k2⟩, ⟨_, k3⟩, hfr, hg1⟩ := hLR3.at k hlt
     have hf0 := hfr (k * 4)
     have hf1 := hfr (k * 4 + 1)
     have hf2 := hfr (k * 4 + 2)
     have hf3 := hfr (k * 4 + 3)
     have hne : ∀ q, q ≠ w.heap.size + 1 → (set4 W2 (w.heap.size + 1) (k * 4) (.int .i64 x.lv) (.bool false) (.slice none 0 0) (.slice (some ⟨w.heap.size + 2 + k, 0, none⟩) x.kn x.kn)).heap[q]? = W2.heap[q]? := fun q hq => heap_set4 _ _ _ _ _ _ _ _ hq
     have HLR4 := Lib.hid (hLR3.set (lv := x.lv) (N := x.kn) (h := fun i => w.heap.size + 2 + i))
     have hMg : Mx M w.heap.size (w.heap.size + 3 + n) (w.heap.size + 1) := Mx.at (by omega)
     have HK4 : Hid (∀ i, i < k + 1 → CKids (Mx M w.heap.size (w.heap.size + 3 + n)) (set4 W2 (w.heap.size + 1) (k * 4) (.int .i64 x.lv) (.bool false) (.slice none 0 0) (.slice (some ⟨w.heap.size + 2 + k, 0, none⟩) x.kn x.kn)) d' E' B (w.heap.size + 2 + i) x.kn (fun _ => []) P) := fun i hi => by
      by_cases hik : i = k
      ·subst hik; exact CKids.fresh (hBm.of_heap (hne _ (by omega)))
      ·exact ((HK2.out i (by omega)).ext hEm).kp (hne _ (by omega)) (Kp.set4 hMg _ _ _ _ _)
     have HP4 : Hid (P4 (set4 W2 (w.heap.size + 1) (k * 4) (.int .i64 x.lv) (.bool false) (.slice none 0 0) (.slice (some ⟨w.heap.size + 2 + k, 0, none⟩) x.kn x.kn)) w.heap.size x) := p4_heap hSn (hne _ (by omega))
     have HE4 : Hid (Ext w (set4 W2 (w.heap.size + 1) (k * 4) (.int .i64 x.lv) (.bool false) (.slice none 0 0) (.slice (some ⟨w.heap.size + 2 + k, 0, none⟩) x.kn x.kn))) := (HE2.out.trans hEm).set4 (by omega) _ _ _ _ _
     have hs4 : (set4 W2 (w.heap.size + 1) (k * 4) (.int .i64 x.lv) (.bool false) (.slice none 0 0) (.slice (some ⟨w.heap.size + 2 + k, 0, none⟩) x.kn x.kn)).heap.size = w.heap.size + 2 + (k + 1) := by rw [size_set4]; exact hsm
     clear hLR3 hfr hne hMg hBm hEm hsm HLR2 HK2 HE2
     ((refine wpAnyU_one 10 (o := ?_) (by kernel_rfl) ?_ ?_; rotate_left 1; (simp only [xgA, xgB, xgC]; rfl); intro K hK); go_simp; (refine hK.out _ _ (fun h => absurd rfl h) ?_); clear hK K; refine wpAnyU_done (by kernel_rfl) ?_ _)
     clear hHeld hSn
     go_wp2
     go_roundw
     case rel => exact ⟨k + 1, by omega, by go_num, hs4, HE4, HP4, HLR4, HK4⟩
     case measure => simp [intOf]; omega
    ·have hkn1 : k = n + 1 := by omega
     have hge : ¬ (k : Int) < (n : Int) + 1 := by omega
     have HI : Hid (CoI M w L d' E' B n x.kn P x wr (fun _ => 0)) := ⟨by omega, HE.out, HP.out, by rw [← hkn1]; exact hkn1 ▸ HLR.out, fun i hi => (HK.out i (by omega)).congr fun j _ => by rw [if_neg (Nat.not_lt_zero _)]; exact Sim.refl _⟩
     obtain ⟨x0, x1, x2, x3⟩ := HP.out
     rw [HKA.out] at x3
     clear HE HP HLR HK hsz hlt HCB hkn hk hkn1
     go_wp2
     go_loopw [35] (fun j wr => ∃ k : Nat, k ≤ x.kn ∧ j = .int .i64 k ∧ Hid (CoI M w L d' E' B n x.kn P x wr (fun _ => k))) (fun j _ => x.kn - (intOf j).toNat)
     case atStart => exact ⟨0, Nat.zero_le _, rfl, HI⟩
     case round =>
      clear HI x0 x1 x2 x3
      obtain ⟨k, hk, rfl, HI⟩ := hrel
      by_cases hlt : k < x.kn
      ·obtain ⟨y, hy, hcall⟩ := HCALL.out k hlt
       obtain ⟨c0, c1, c2, c3⟩ := hy.ext hb HI.out.ext
       have hbw : b < wr.heap.size := Nat.lt_of_lt_of_le hb HI.out.ext.size
       have hEa := (Ext.refl wr).alloc (.cells (peA y) 33)
       have hltI : (k : Int) < (x.kn : Int) := by omega
       have CTR := Lib.hid (hcall (Mx M w.heap.size (w.heap.size + 3 + n)) _ ((HI.out.mb HM.out).ext hEa) (Mx.more (Nat.le_refl _)) (HI.out.ext.trans hEa))
       have HEA := Lib.hid hEa
       clear hcall hEa hy HDONE
       go_wp2_with (fail)
       refine CTR.out.mono ?_
       rintro e w2 ⟨g2, rfl, hg2, hK2, he2⟩
       have HI2 := Lib.hid (HI.out.grow (HEA.out.trans he2))
       have HK2 := Lib.hid hK2
       have hg2' : w.heap.size + 3 + n ≤ g2 := Nat.le_trans HI.out.sz (Nat.le_trans HEA.out.size hg2)
       clear CTR hK2 he2 hg2 HEA HI c0 c1 c2 c3 hbw
       go_wp2
       go_loopw [45] (fun j wq => ∃ i : Nat, i ≤ n + 1 ∧ j = .int .i64 i ∧ Hid (CoI M w L d' E' B n x.kn P x wq (fun q => if q < i then k + 1 else k)) ∧ Hid (CKids (fun b => Mx M w.heap.size (w.heap.size + 3 + n) b ∨ b = g2) wq d' E' B g2 (n + 1) (fun i => ck L (i : Int) (P k)) (fun _ => P k))) (fun j _ => n + 1 - (intOf j).toNat)
       case atStart => exact ⟨0, Nat.zero_le _, rfl, HI2.out.congr (fun i _ => by rw [if_neg (Nat.not_lt_zero _)]), HK2⟩
       case round =>
        clear HI2 HK2
        obtain ⟨i, hiN, rfl, HI, HK⟩ := hrel
        by_cases hlt2 : i < n + 1
        ·obtain ⟨z, hz, hzc⟩ := HK.out.cells i hlt2
         obtain ⟨c0, c1, c2, c3⟩ := hz
         have hgw : g2 < wr.heap.size := HK.out.lt
         have hltJ : (i : Int) < (n : Int) + 1 := by omega
         have hP5 := (Blk.of_arr wr (peA z) 33 4 rfl).p4
         have hE5 := (Ext.refl wr).alloc (.cells (peA z) 33)
         have HI5 := Lib.hid (HI.out.grow hE5)
         have HK5 := Lib.hid (HK.out.ext hE5)
         have HZ5 : Hid (CfT (Mx M w.heap.size (w.heap.size + 3 + n)) (wr.alloc (.cells (peA z) 33)) d' E' B (.int .i64 z.lv) (.bool z.b) (.slice z.a z.n z.p) (.slice z.ka z.kn z.kp) (ck L (i : Int) (P k)) (P k)) := (hzc.more (M' := Mx M w.heap.size (w.heap.size + 3 + n)) (fun b hb => .inl (.inl hb))).ext hE5
         clear HI HK hzc hE5
         go_upto_region 13 with (fail)
         generalize hgz : wr.heap.size = gz at *
         generalize wr.alloc (.cells (peA z) 33) = W5 at *
         have hS5 : SCo (w.heap.size + 1) (i * 4 + 3) (w.heap.size + 2 + i) x.kn gz z W5.drew := ⟨(HI5.out.row.c3 (Nat.le_refl _) i hlt2), hP5⟩
         have HI6 := Lib.hid (HI5.out.grow (Ext.refl W5).drew)
         have HK6 := Lib.hid (HK5.out.ext (Ext.refl W5).drew)
         have HZ6 := Lib.hid (HZ5.out.ext (Ext.refl W5).drew)
         clear HI5 HK5 HZ5 hP5 c0 c1 c2 c3
         refine wp_region_u (SCo (w.heap.size + 1) (i * 4 + 3) (w.heap.size + 2 + i) x.kn gz z) 8 (by kernel_rfl) hS5 (fun hHeld => ?_)
         clear hS5
         generalize W5.drew = wd at *
         have hkI : (k : Int) < (x.kn : Int) := by omega
         (refine tkB [0, 1, 2, 3, 4, 5, 6, 7] ?_; (iterate 8 (refine tk1 (oi := ?_) (v := ?_) (by kernel_rfl) (by first | exact hSn | exact hHeld) ?_ ?_ ?_ ?_ ?_; rotate_left 2; (simp only [xgA, xgB, xgC]; rfl); rfl; (intro wS hSw; obtain ⟨S0, S1, S2, S3, S4⟩ := hSw; go_simp; try with_reducible rfl); (exact fun _ _ _ h => h); (try simp only [Act.put, xgD, xgE, xgF]))); refine tkE ?_)
         obtain ⟨⟨_, k0⟩, ⟨_, k1⟩, ⟨_, k2⟩, ⟨_, k3⟩, hfr, hg1⟩ := (HI6.out.kids i hlt2).at k hlt
         have hf0 := hfr (k * 4)
         have hf1 := hfr (k * 4 + 1)
         have hf2 := hfr (k * 4 + 2)
         have hf3 := hfr (k * 4 + 3)
         have HI7 : Hid (CoI M w L d' E' B n x.kn P x (set4 wd (w.heap.size + 2 + i) (k * 4) (.int .i64 z.lv) (.bool z.b) (.slice z.a z.n z.p) (.slice z.ka z.kn z.kp)) (fun q => if q < i + 1 then k + 1 else k)) := by
          refine (HI6.out.store i hlt2 k hlt (by rw [if_neg (Nat.lt_irrefl _)]) HZ6.out).congr fun q hq => ?_
          by_cases h3 : q = i
          ·rw [if_pos h3, if_pos (by omega)]
          ·rw [if_neg h3]
           by_cases h4 : q < i
           ·rw [if_pos h4, if_pos (by omega)]
           ·rw [if_neg h4, if_neg (by omega)]
         have HK7 : Hid (CKids (fun b => Mx M w.heap.size (w.heap.size + 3 + n) b ∨ b = g2) (set4 wd (w.heap.size + 2 + i) (k * 4) (.int .i64 z.lv) (.bool z.b) (.slice z.a z.n z.p) (.slice z.ka z.kn z.kp)) d' E' B g2 (n + 1) (fun i => ck L (i : Int) (P k)) (fun _ => P k)) := HK6.out.kp (heap_set4 _ _ _ _ _ _ _ _ (by omega)) (Kp.set4 (.inl (Mx.at (by omega))) _ _ _ _ _)
         clear hfr HI6 HK6 HZ6
         ((refine wpAnyU_one 8 (o := ?_) (by kernel_rfl) ?_ ?_; rotate_left 1; (simp only [xgA, xgB, xgC]; rfl); intro K hK); go_simp; (refine hK.out _ _ (fun h => absurd rfl h) ?_); clear hK K; refine wpAnyU_done (by kernel_rfl) ?_ _)
         clear hHeld
         try clear hSn
         go_wp2
         go_roundw
         case rel => exact ⟨i + 1, by omega, by go_num, HI7, HK7⟩
         case measure => simp [intOf]; omega
        ·obtain rfl : i = n + 1 := by omega
         have HI8 : Hid (CoI M w L d' E' B n x.kn P x wr (fun _ => k + 1)) := HI.out.congr fun q hq => by rw [if_pos hq]
         clear HI HK
         go_wp2
         go_roundw
         case rel => exact ⟨k + 1, by omega, by go_num, HI8⟩
         case measure => simp [intOf]; omega
      ·obtain rfl : k = x.kn := by omega
       have HF := Lib.hid (HDONE.out _ _ HI.out fun _ _ => rfl)
       clear HI HCALL HDONE
       go_wp2
       exact bodyPost_ret (v := .slice (some ⟨w.heap.size + 1, 0, none⟩) (n + 1) (n + 1)) (by simp [results, Tryz.results145, go_sem]) rfl HF.out
theorem mv_coefs (L : Nat) (hL1 : 1 ≤ L) (hL4 : L ≤ 4) (E : Nat) : CoefsCtr L E := by
 induction E using Nat.strongRecOn with
 | _ E ih => exact coefs_walk L hL1 hL4 E fun E' hE => ih E' hE
end Go.Proofs.YtjcceddloogiiaaGreat
