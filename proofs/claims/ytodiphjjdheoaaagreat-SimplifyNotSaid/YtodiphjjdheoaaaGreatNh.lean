/- cylinderref39.Value: Horner's rule at integers. -/
import Derived.Test.YtodiphjjdheoaaaGreatNr
import Derived.Test.YtodiphjjdheoaaaGreatNb
set_option linter.unusedVariables false
set_option linter.unusedSimpArgs false

namespace Go.Proofs.YtodiphjjdheoaaaGreat
open Go.RowKit

def RetZ (M : Nat → Prop) (w : World) (q : Rat) (e : Ending) (w' : World) : Prop := ∃ (x : I4) (z : Int), e = .returned (.agg (iA x)) ∧ IntV M w' (.bool x.b) (.slice x.a x.n x.p) z ∧ (z : Rat) = q ∧ Ext w w'
theorem rb_cast {N : Nat} {z : Int} {q : Rat} (h : rb N q) (e : (z : Rat) = q) : dlen z.natAbs ≤ N := by
 subst e
 have := h.1
 rwa [Rat.num_intCast] at this
def IRow (M : Nat → Prop) (w : World) (a : Option Addr) (cap : Nat) (X : Nat → I4) (z : Nat → Int) : Prop :=
 cap ≤ maxLen ∧ 4 ≤ cap ∧ ∃ b off, a = some ⟨b, off, none⟩ ∧ b < w.heap.size ∧ ∀ i, i < 4 → (w.cell? ⟨b, off + i * 2, none⟩ = some (.bool (X i).b) ∧ w.cell? ⟨b, off + i * 2 + 1, none⟩ = some (.slice (X i).a (X i).n (X i).p)) ∧ IntV M w (.bool (X i).b) (.slice (X i).a (X i).n (X i).p) (z i)
theorem IRow.ext {M : Nat → Prop} {w w' : World} {a : Option Addr} {cap : Nat} {X : Nat → I4} {z : Nat → Int} (h : IRow M w a cap X z) (he : Ext w w') : IRow M w' a cap X z := by
 obtain ⟨h1, h2, b, off, h3, h4, h5⟩ := h
 exact ⟨h1, h2, b, off, h3, Nat.lt_of_lt_of_le h4 he.size, fun i hi => ⟨⟨by rw [he.cell h4]; exact (h5 i hi).1.1, by rw [he.cell h4]; exact (h5 i hi).1.2⟩, (h5 i hi).2.ext he⟩⟩
theorem IRow.more {M M' : Nat → Prop} {w : World} {a : Option Addr} {cap : Nat} {X : Nat → I4} {z : Nat → Int} (h : IRow M w a cap X z) (hm : ∀ g, M' g → M g ∨ w.heap.size ≤ g) : IRow M' w a cap X z := by
 obtain ⟨h1, h2, b, off, h3, h4, h5⟩ := h
 exact ⟨h1, h2, b, off, h3, h4, fun i hi => ⟨(h5 i hi).1, (h5 i hi).2.more hm⟩⟩
def zq (z : Nat → Int) : Nat → Rat := fun i => (z i : Rat)
def VlCtr (A d : Nat) : Prop := ∀ (M : Nat → Prop) (t : RT d) (x : PE) (a : Option Addr) (cap : Nat) (X : Nat → I4) (z : Nat → Int) (w : World), Mb M w → RR M w d t (.int .i64 x.lv) (.bool x.b) (.slice x.a x.n x.p) (.slice x.ka x.kn x.kp) →
 IRow M w a cap X z → (∀ i, i < 4 → dlen (z i).natAbs + 1 ≤ A) → 2 * szE A d t + A + 4 ≤ 1099511627776 → Calls Tryz.prog 53 #[.agg (peA x), .slice a 4 cap] w (RetZ M w (evT (zq z) (terms d t)))
theorem vlBox {M : Nat → Prop} {w : World} (hM : Mb M w) (x : PE) : ∃ W, W = (w.alloc (.cells (peA x) 29)).alloc (.cells zI 26) ∧ Ext w W ∧ P4 W w.heap.size x ∧ Blk W (w.heap.size + 1) 26 2 (arr zI) ∧ Mb (Mx M w.heap.size (w.heap.size + 2)) W := by
 have h1 := Blk.of_arr (w.alloc (.cells (peA x) 29)) zI 26 2 rfl
 simp only [World.size_alloc] at h1
 exact ⟨_, rfl, ((Ext.refl w).alloc _).alloc _, ((Blk.of_arr w (peA x) 29 4 rfl).alloc _).p4, h1, Mx.mb hM (by simp; omega) (by simp)⟩
theorem finZ {M M' : Nat → Prop} {w W : World} {g : Nat} {t : TypeId} {x : I4} {z : Int} {q : Rat} (hB : Blk W g t 2 (arr zI)) (hg : M' g) (hw : w.heap.size ≤ g) (he : Ext w W) (hr : IntV M' W (.bool x.b) (.slice x.a x.n x.p) z) (hq : (z : Rat) = q) (hm : ∀ g, M g → M' g) :
  (W.cell? ⟨g, 0, none⟩ = some (.bool false) ∧ W.cell? ⟨g, 1, none⟩ = some (.slice none 0 0) ∧ W.frozen? ⟨g, 0, none⟩ = false ∧ W.frozen? ⟨g, 1, none⟩ = false) ∧
  (((W.setCell ⟨g, 0, none⟩ (.bool x.b)).setCell ⟨g, 1, none⟩ (.slice x.a x.n x.p)).cell? ⟨g, 0, none⟩ = some (.bool x.b) ∧ ((W.setCell ⟨g, 0, none⟩ (.bool x.b)).setCell ⟨g, 1, none⟩ (.slice x.a x.n x.p)).cell? ⟨g, 1, none⟩ = some (.slice x.a x.n x.p)) ∧
  Hid (RetZ M w q (.returned (.agg (iA x))) ((W.setCell ⟨g, 0, none⟩ (.bool x.b)).setCell ⟨g, 1, none⟩ (.slice x.a x.n x.p))) := by
 obtain ⟨h1, h2, h3, h4⟩ := fin2 (w := w) (.bool x.b) (.slice x.a x.n x.p) hB hg hw he
 exact ⟨h1, h2, ⟨x, z, rfl, (hr.kp h3).more (fun g hg => .inl (hm g hg)), hq, h4⟩⟩
set_option maxRecDepth 100000 in
set_option maxHeartbeats 4000000 in
theorem vl_leaf (A d : Nat) (M : Nat → Prop) (t : RT (d + 1)) (x : PE) (a : Option Addr) (cap : Nat) (z : Nat → Int) (w : World) (hM : Mb M w) (h : RR M w (d + 1) t (.int .i64 x.lv) (.bool x.b) (.slice x.a x.n x.p) (.slice x.ka x.kn x.kp)) (hl : t.1 ≤ 0) :
  Calls Tryz.prog 53 #[.agg (peA x), .slice a 4 cap] w (RetZ M w (evT (zq z) (terms (d + 1) t))) := by
 obtain ⟨W, hW, hE, ⟨c0, c1, c2, c3⟩, hB, hM2⟩ := vlBox hM x
 obtain ⟨h0, _, hI, _⟩ := h
 simp only [Value.int.injEq, true_and] at h0
 have hlv : x.lv ≤ 0 := by omega
 have hI2 := (hI.toV.more (M' := Mx M w.heap.size (w.heap.size + 2)) (Mx.more (Nat.le_refl _))).ext hE
 have hT : (t.2.1.val : Rat) = evT (zq z) (terms (d + 1) t) := by rw [terms_const hl, evT_single]
 have HW := Lib.hid hW
 obtain ⟨⟨q0, q1, f0, f1⟩, ⟨r0, r1⟩, HF⟩ := finZ (M := M) (w := w) (x := ⟨x.b, x.a, x.n, x.p⟩) hB (Mx.at (by omega)) (by omega) hE hI2 hT Mx.sub
 have g0 := World.block_lt_of_cell? _ _ c0
 have g1 := hB.lt
 simp only at g0
 clear hI hI2 hW hE hB hM2 hM h0 hl hT
 go_enter Tryz.func53, Tryz.ntmps53
 go_upto_region 1 with (fail)
 rw [← HW.out]
 go_wp2
 exact bodyPost_ret (v := .agg #[.bool x.b, .slice x.a x.n x.p]) (by simp [results, Tryz.results53, go_sem, r0, r1]) rfl HF.out
set_option maxRecDepth 100000 in
set_option maxHeartbeats 4000000 in
theorem vl_high (A d : Nat) (M : Nat → Prop) (t : RT (d + 1)) (x : PE) (a : Option Addr) (cap : Nat) (z : Nat → Int) (w : World) (hM : Mb M w) (h : RR M w (d + 1) t (.int .i64 x.lv) (.bool x.b) (.slice x.a x.n x.p) (.slice x.ka x.kn x.kp)) (hl : 4 < t.1) :
  Calls Tryz.prog 53 #[.agg (peA x), .slice a 4 cap] w (RetZ M w (evT (zq z) (terms (d + 1) t))) := by
 obtain ⟨W, hW, hE, ⟨c0, c1, c2, c3⟩, hB, hM2⟩ := vlBox hM x
 obtain ⟨h0, _, hI, _⟩ := h
 simp only [Value.int.injEq, true_and] at h0
 have hlv : ¬ x.lv ≤ 0 := by omega
 have hlv4 : 4 < x.lv := by omega
 have hT : ((0 : Int) : Rat) = evT (zq z) (terms (d + 1) t) := by
  unfold terms
  rw [if_neg (by omega), if_pos hl]; rfl
 have HW := Lib.hid hW
 obtain ⟨⟨q0, q1, f0, f1⟩, ⟨r0, r1⟩, HF⟩ := finZ (M := M) (w := w) (x := ⟨false, none, 0, 0⟩) hB (Mx.at (by omega)) (by omega) hE (intc_zero (Mx M w.heap.size (w.heap.size + 2)) W).toV hT Mx.sub
 have g0 := World.block_lt_of_cell? _ _ c0
 have g1 := hB.lt
 simp only at g0
 clear hI hW hE hB hM2 hM h0 hl hT
 go_enter Tryz.func53, Tryz.ntmps53
 go_upto_region 1 with (fail)
 rw [← HW.out]
 go_wp2
 exact bodyPost_ret (v := .agg #[.bool false, .slice none 0 0]) (by simp [results, Tryz.results53, go_sem, r0, r1]) rfl HF.out
theorem kid_pe' {M : Nat → Prop} {w : World} {d : Nat} {t : RT (d + 1)} {x : PE} (h : RR M w (d + 1) t (.int .i64 x.lv) (.bool x.b) (.slice x.a x.n x.p) (.slice x.ka x.kn x.kp)) (i : Nat) (hi : i < t.2.2.1) :
  ∃ (b off : Nat) (y : PE), x.ka = some ⟨b, off, none⟩ ∧ x.kn ≤ x.kp ∧ x.kp ≤ maxLen ∧ b < w.heap.size ∧ (w.cell? ⟨b, off + i * 4, none⟩ = some (.int .i64 y.lv) ∧ w.cell? ⟨b, off + i * 4 + 1, none⟩ = some (.bool y.b) ∧ w.cell? ⟨b, off + i * 4 + 2, none⟩ = some (.slice y.a y.n y.p) ∧ w.cell? ⟨b, off + i * 4 + 3, none⟩ = some (.slice y.ka y.kn y.kp)) ∧
   RR M w d (t.2.2.2 i) (.int .i64 y.lv) (.bool y.b) (.slice y.a y.n y.p) (.slice y.ka y.kn y.kp) := by
 have hf := h.form
 obtain ⟨_, _, _, ka, kp, hk⟩ := hf
 simp only [Value.slice.injEq] at hk
 obtain ⟨e1, e2, e3⟩ := hk
 rw [e2] at h
 obtain ⟨b, off, h1, h2, h3, h4, e0', e1', e2', e3', x0, x1, x2, x3, x4⟩ := h.kids i hi
 obtain ⟨y, rfl, rfl, rfl, rfl⟩ := x4.pe
 exact ⟨b, off, y, h1, by rw [e2]; exact h2, h3, h4, ⟨x0, x1, x2, x3⟩, x4⟩
structure SVl (G P : Nat) (s : I4) (Lm : Nat) (kb koff kn kp : Nat) (ab ao : Nat) (r : I4) (ko : Nat) (y : PE) (w : World) : Prop where
 sum : C2 G s w
 lv : w.cell? ⟨P, 0, none⟩ = some (.int .i64 ((Lm : Int) + 1))
 cf : w.cell? ⟨P, 3, none⟩ = some (.slice (some ⟨kb, koff, none⟩) kn kp)
 a0 : w.cell? ⟨ab, ao, none⟩ = some (.bool r.b)
 a1 : w.cell? ⟨ab, ao + 1, none⟩ = some (.slice r.a r.n r.p)
 k0 : w.cell? ⟨kb, ko, none⟩ = some (.int .i64 y.lv)
 k1 : w.cell? ⟨kb, ko + 1, none⟩ = some (.bool y.b)
 k2 : w.cell? ⟨kb, ko + 2, none⟩ = some (.slice y.a y.n y.p)
 k3 : w.cell? ⟨kb, ko + 3, none⟩ = some (.slice y.ka y.kn y.kp)
theorem SVl.ext {G P : Nat} {s : I4} {Lm : Nat} {kb koff kn kp : Nat} {ab ao : Nat} {r : I4} {ko : Nat} {y : PE} {w w' : World} (h : SVl G P s Lm kb koff kn kp ab ao r ko y w) (he : Ext w w') : SVl G P s Lm kb koff kn kp ab ao r ko y w' := by
 obtain ⟨h1, h2, h3, h4, h4', h5, h6, h7, h8⟩ := h
 have b2 := World.block_lt_of_cell? _ _ h2
 have b4 := World.block_lt_of_cell? _ _ h4
 have b5 := World.block_lt_of_cell? _ _ h5
 exact ⟨h1.ext he, by rw [he.cell b2]; exact h2, by rw [he.cell b2]; exact h3, by rw [he.cell b4]; exact h4, by rw [he.cell b4]; exact h4', by rw [he.cell b5]; exact h5, by rw [he.cell b5]; exact h6, by rw [he.cell b5]; exact h7, by rw [he.cell b5]; exact h8⟩
theorem Blk.c2 {w : World} {g : Nat} {t : TypeId} {x : I4} (h : Blk w g t 2 (arr (iA x))) : C2 g x w := ⟨h.cell (i := 0) (by omega), h.cell (i := 1) (by omega)⟩
set_option maxRecDepth 100000 in
set_option maxHeartbeats 16000000 in
theorem vl_loop (A d : Nat) (hA : 1 ≤ A) (ih : VlCtr A d) (M : Nat → Prop) (t : RT (d + 1)) (x : PE) (a : Option Addr) (cap : Nat) (X : Nat → I4) (z : Nat → Int) (w : World) (hM : Mb M w) (h : RR M w (d + 1) t (.int .i64 x.lv) (.bool x.b) (.slice x.a x.n x.p) (.slice x.ka x.kn x.kp)) (hq : IRow M w a cap X z) (hz : ∀ i, i < 4 → dlen (z i).natAbs + 1 ≤ A) (hsz : 2 * szE A (d + 1) t + A + 4 ≤ 1099511627776) (hl : 1 ≤ t.1 ∧ t.1 ≤ 4) :
  Calls Tryz.prog 53 #[.agg (peA x), .slice a 4 cap] w (RetZ M w (evT (zq z) (terms (d + 1) t))) := by
 obtain ⟨W, hW, hE, ⟨c0, c1, c2, c3⟩, hB, hM2⟩ := vlBox hM x
 have h0 := h.1
 simp only [Value.int.injEq, true_and] at h0
 obtain ⟨Lm, hLm⟩ : ∃ Lm : Nat, x.lv = (Lm : Int) + 1 := ⟨(x.lv - 1).toNat, by omega⟩
 have hlv : ¬ ((Lm : Int) + 1) ≤ 0 := by omega
 have hlv4 : ¬ 4 < ((Lm : Int) + 1) := by omega
 have hLn : Lm < 4 := by omega
 rw [hLm] at c0
 have hkn : x.kn = t.2.2.1 := by
  obtain ⟨_, _, _, ka, kp, hk⟩ := h.form
  simp only [Value.slice.injEq] at hk
  exact hk.2.1
 have hT : evT (zq z) (terms (d + 1) t) = hv (zq z Lm) (fun i => evT (zq z) (terms d (t.2.2.2 i))) t.2.2.1 t.2.2.1 := by
  rw [hv_all, evT_node _ hl.1 hl.2]
  congr 1
  rw [show t.1.toNat - 1 = Lm by omega]
 have hsz2 : szE A (d + 1) t = 1 + nsum (fun i => szE A d (t.2.2.2 i) + A + 1) t.2.2.1 := by
  conv => lhs; unfold szE
  rw [if_neg (by omega), if_neg (by omega)]
 have hrbA : ∀ k, k < 4 → rb A (zq z k) := fun k hk => (rb_int (z k)).mono (hz k hk)
 obtain ⟨hc1, hc2, ab, aoff, rfl, hab, hrow⟩ := hq
 have hrbq : rb A (zq z Lm) := hrbA Lm hLn
 have HRB : Hid (∀ j, j ≤ t.2.2.1 → rb (1 + nsum (fun i => szE A d (t.2.2.2 i) + A + 1) t.2.2.1 - nsum (fun i => szE A d (t.2.2.2 i) + A + 1) (t.2.2.1 - j)) (hv (zq z Lm) (fun i => evT (zq z) (terms d (t.2.2.2 i))) t.2.2.1 j)) :=
  rb_hv hrbq _ (fun i => szE A d (t.2.2.2 i)) _ fun i _ => rb_evT hrbA d _
 have HRK : Hid (∀ i, rb (szE A d (t.2.2.2 i)) (evT (zq z) (terms d (t.2.2.2 i)))) := fun i => rb_evT hrbA d _
 have HW := Lib.hid hW
 have HE := Lib.hid hE
 have HB := Lib.hid hB
 have HM := Lib.hid hM2
 have HTT := Lib.hid hT
 have HZ := Lib.hid hz
 have HSZ := Lib.hid hsz
 have HSZ2 := Lib.hid hsz2
 have hknL : x.kn ≤ 1099511627776 := by rw [hkn]; exact h.2.2.2.1
 have HKN := Lib.hid hkn
 have g0 := World.block_lt_of_cell? _ _ c0
 have g1 := hB.lt
 simp only at g0
 have hEa : Ext W (W.alloc (.cells zI 26)) := (Ext.refl _).alloc _
 have hBa := Blk.of_arr W zI 26 2 rfl
 obtain ⟨G, hG⟩ : ∃ G, G = W.heap.size := ⟨_, rfl⟩
 rw [← hG] at hBa
 have hGg : w.heap.size + 1 < G := by rw [hG]; exact g1
 obtain ⟨W2, hW2⟩ : ∃ W2, W2 = W.alloc (.cells zI 26) := ⟨_, rfl⟩
 rw [← hW2] at hBa hEa
 have HMG : Hid (Mb (fun g => Mx M w.heap.size (w.heap.size + 2) g ∨ g = G) W2) := fun g hg => hg.elim (fun h1 => (hM2.ext hEa) g h1) (fun h1 => by have := hBa.lt; omega)
 have HQ := Lib.hid (((IRow.more (M' := Mx M w.heap.size (w.heap.size + 2)) (⟨hc1, hc2, ab, aoff, rfl, hab, hrow⟩ : IRow M w (some ⟨ab, aoff, none⟩) cap X z) (Mx.more (Nat.le_refl _))).ext hE).more (M' := fun g => Mx M w.heap.size (w.heap.size + 2) g ∨ g = G) (fun g hg => hg.imp id (fun e => by omega)))
 have HRR := Lib.hid (RR.more (M' := fun g => Mx M w.heap.size (w.heap.size + 2) g ∨ g = G) (fun g hg => hg.imp id (fun e => by omega)) (RR.ext (RR.more (M' := Mx M w.heap.size (w.heap.size + 2)) (Mx.more (Nat.le_refl _)) h) hE))
 have HP0 : Hid (W.cell? ⟨w.heap.size, 0, none⟩ = some (.int .i64 ((Lm : Int) + 1)) ∧ W.cell? ⟨w.heap.size, 3, none⟩ = some (.slice x.ka x.kn x.kp)) := ⟨c0, c3⟩
 have HBs := Lib.hid hBa
 have HEX : Hid (Ext W W2) := hEa
 have HW2 := Lib.hid hW2
 have HGW := Lib.hid hG
 have g2 := Nat.lt_of_lt_of_le g0 hEa.size
 unfold maxLen at hc1
 clear hW hE hB hM2 hM h0 hl h hsz hsz2 hT hkn hLm hrbA hrbq hrow hab hz hEa hBa hW2
 go_enter Tryz.func53, Tryz.ntmps53
 go_upto_region 1 with (fail)
 rw [← HW.out]
 go_upto_region 6 with (fail)
 rw [← HW2.out, ← HGW.out]
 obtain ⟨d0, d3⟩ := HP0.out
 rw [← HEX.out.cell g0] at d0 d3
 clear c0 c1 c2 c3 hG
 go_wp2
 go_loopw [6] (fun i wr => ∃ (m : Nat) (s : I4) (v : Int), m ≤ x.kn ∧ i = .int .i64 ((m : Int) - 1) ∧ Hid (Blk wr G 26 2 (arr (iA s))) ∧ Hid (IntV (fun g => Mx M w.heap.size (w.heap.size + 2) g ∨ g = G) wr (.bool s.b) (.slice s.a s.n s.p) v) ∧ Hid ((v : Rat) = hv (zq z Lm) (fun i => evT (zq z) (terms d (t.2.2.2 i))) x.kn (x.kn - m)) ∧ Hid (Ext W wr)) (fun i _ => (intOf i + 1).toNat)
 case atStart => exact ⟨x.kn, ⟨false, none, 0, 0⟩, 0, Nat.le_refl _, rfl, HBs, (intc_zero _ _).toV, (by show _ = _; rw [Nat.sub_self]; rfl), HEX⟩
 case round =>
  clear HBs d0 d3
  obtain ⟨m, s, v, hm, rfl, HBs, HS, HV, HEX2⟩ := hrel
  have hEW := HEX2.out
  by_cases hm0 : m = 0
  ·subst hm0
   obtain ⟨s0', s1'⟩ := HBs.out.c2
   have gl := HBs.out.lt
   obtain ⟨⟨q0, q1, f0, f1⟩, ⟨r0, r1⟩, HF⟩ := finZ (M := M) (M' := fun g => Mx M w.heap.size (w.heap.size + 2) g ∨ g = G) (w := w) (HB.out.ext hEW) (.inl (Mx.at (by omega))) (by omega) (HE.out.trans hEW) HS.out (q := evT (zq z) (terms (d + 1) t)) (by rw [HV.out, Nat.sub_zero, HKN.out, ← HTT.out]) (fun g hg => .inl (Mx.sub g hg))
   clear hEW HS HBs HRR HQ HRB HRK HSZ HSZ2 hm HV HKN HTT
   go_wp2
   exact bodyPost_ret (v := .agg (iA s)) (by simp [results, Tryz.results53, go_sem, r0, r1]) rfl HF.out
  ·obtain ⟨k, rfl⟩ : ∃ k, m = k + 1 := ⟨m - 1, by omega⟩
   rw [show ((k + 1 : Nat) : Int) - 1 = (k : Int) by omega]
   have hEd := hEW.drew
   obtain ⟨b, off, y, hka, hkp, hkm, hb, ⟨e0, e1, e2, e3⟩, hy⟩ := kid_pe' (RR.ext HRR.out hEd) k (by rw [← HKN.out]; omega)
   obtain ⟨_, _, ab', aoff', haa, hab, hrow⟩ := HQ.out.ext hEd
   simp only [Option.some.injEq, Addr.mk.injEq, and_true] at haa
   obtain ⟨rfl, rfl⟩ := haa
   obtain ⟨⟨a0, a1⟩, hax⟩ := hrow Lm hLn
   obtain ⟨d0, d3⟩ := HP0.out
   rw [← HEX2.out.drew.cell g0] at d0 d3
   rw [hka] at d3
   have HSS : Hid (SVl G w.heap.size s Lm b off x.kn x.kp ab (aoff + Lm * 2) (X Lm) (off + k * 4) y wr.drew) := ⟨(HBs.out.ext (Ext.refl _).drew).c2, d0, d3, a0, a1, e0, e1, e2, e3⟩
   have hMB : Mb (fun g => Mx M w.heap.size (w.heap.size + 2) g ∨ g = G) wr.drew := fun g hg => hg.elim (fun h1 => (HM.out.ext hEd) g h1) (fun h1 => by have := HBs.out.lt; rw [h1]; exact this)
   have hrb := HRB.out (x.kn - (k + 1)) (by rw [← HKN.out]; omega)
   rw [← HKN.out] at hrb
   rw [show x.kn - (x.kn - (k + 1)) = k + 1 by omega] at hrb
   have hn1 := nsum_mono (fun i => szE A d (t.2.2.2 i) + A + 1) (show k + 1 ≤ x.kn from hm)
   obtain ⟨F, hF⟩ : ∃ F, F = 1 + nsum (fun i => szE A d (t.2.2.2 i) + A + 1) x.kn - nsum (fun i => szE A d (t.2.2.2 i) + A + 1) (k + 1) := ⟨_, rfl⟩
   obtain ⟨Kz, hKz⟩ : ∃ Kz, Kz = szE A d (t.2.2.2 k) := ⟨_, rfl⟩
   rw [← hF] at hrb
   have hz1 : F + Kz + A + 1 ≤ szE A (d + 1) t ∧ 1 ≤ F := by
    have h1 := HSZ2.out
    rw [← HKN.out] at h1
    rw [h1, hF, hKz]
    simp only [nsum] at hn1 ⊢
    omega
   have hz0 := HSZ.out
   have HRKk := Lib.hid (HRK.out k)
   rw [← hKz] at HRKk
   have hd1 : dlen v.natAbs ≤ F := rb_cast hrb HV.out
   have hd2 : dlen (z Lm).natAbs + 1 ≤ A := HZ.out Lm hLn
   have hd3 : dlen (v * z Lm).natAbs ≤ F + A := rb_cast (rb_mul hrb ((rb_int (z Lm)).mono hd2)) (by rw [Rat.intCast_mul, HV.out])
   have HAX := Lib.hid hax
   have HY := Lib.hid hy
   have HMB := Lib.hid hMB
   have HQd := Lib.hid (HQ.out.ext hEd)
   have HGS := Lib.hid (HBs.out.ext (Ext.refl _).drew)
   have HSX := Lib.hid (HS.out.ext (Ext.refl _).drew)
   have hz2 : 2 * szE A d (t.2.2.2 k) + A + 4 ≤ 1099511627776 := by rw [← hKz]; omega
   have HZ2 := Lib.hid hz2
   have HXN : Hid (hv (zq z Lm) (fun i => evT (zq z) (terms d (t.2.2.2 i))) x.kn (x.kn - k) = hv (zq z Lm) (fun i => evT (zq z) (terms d (t.2.2.2 i))) x.kn (x.kn - (k + 1)) * zq z Lm + evT (zq z) (terms d (t.2.2.2 k))) := by
    show _ = _
    rw [show x.kn - k = (x.kn - (k + 1)) + 1 by omega, hv, show x.kn - 1 - (x.kn - (k + 1)) = k by omega]
   have HEr : Hid (Ext W wr.drew) := HEX2.out.drew
   have hkk : k < x.kn := by omega
   have hLI : (Lm : Int) < 4 := by omega
   have hN1 : dlen v.natAbs + dlen (z Lm).natAbs ≤ 1099511627776 := by omega
   have hN2 : F + A + Kz + 2 ≤ 1099511627776 := by omega
   generalize hv (zq z Lm) (fun i => evT (zq z) (terms d (t.2.2.2 i))) x.kn (x.kn - (k + 1)) = hvj at *
   unfold maxLen at hkm
   clear hF hKz hz1 hz0 hn1 hrb hax hy hMB HS HBs HRB HRK HSZ HSZ2 hEW hEd d0 d3 e0 e1 e2 e3 a0 a1 hrow hz2 hka hd1 hd2
   go_upto_region 9 with (fail)
   refine wp_region_u (SVl G w.heap.size s Lm b off x.kn x.kp ab (aoff + Lm * 2) (X Lm) (off + k * 4) y) 16 (by kernel_rfl) HSS.out (fun hHeld => ?_)
   generalize wr.drew = wd at *
   have kw1 : IntKind.i64.wrap (Lm : Int) = Lm := IntWalk.i64_in _ (by omega)
   have kw2 : IntKind.i64.wrap (k : Int) = k := IntWalk.i64_in _ (by omega)
   (refine tkB [0, 1, 2, 3, 4, 5, 6, 8, 9, 10, 11, 12, 13] ?_; (iterate 13 (refine tk1 (oi := ?_) (v := ?_) (by kernel_rfl) (by first | exact hSn | exact hHeld) ?_ ?_ ?_ ?_ ?_; rotate_left 2; (simp only [xgA, xgB, xgC]; rfl); rfl; (intro wS hSw; obtain ⟨⟨S1, S2⟩, S4, S5, S6, S7, S9, S10, S11, S12⟩ := hSw; go_simp; try with_reducible rfl); (exact fun _ _ _ h => h); (try simp only [Act.put, xgD, xgE, xgF]))); refine tkE ?_)
   ((refine wpAnyU_one 7 (o := ?_) (by kernel_rfl) ?_ ?_; rotate_left 1; (simp only [xgA, xgB, xgC]; rfl); intro K hK); go_simp; (refine (int_mul _ _ _ _ v (z Lm) _ HMB.out HSX.out HAX.out hN1).mono ?_); rintro e_ wz ⟨u0, u1, rfl, hu1, he1⟩; go_wp2_with (fail); (try clear hSn); (have hSn := hHeld.ext he1); (refine hK.out _ _ (fun _ => hSn) ?_); clear hK K; (try simp only [Act.put, xgD, xgE, xgF]))
   obtain ⟨b5, a5, n5, p5, rfl, rfl⟩ := hu1.form
   ((refine wpAnyU_one 14 (o := ?_) (by kernel_rfl) ?_ ?_; rotate_left 1; (simp only [xgA, xgB, xgC]; rfl); intro K hK); go_simp; (refine (ih _ (t.2.2.2 k) y (some ⟨ab, aoff, none⟩) cap X z _ (HMB.out.ext he1) (RR.ext HY.out he1) (HQd.out.ext he1) HZ.out HZ2.out).mono ?_); rintro e_ wz ⟨x2, v2, rfl, hu2, hv2, he2⟩; go_wp2_with (fail); (try clear hSn); (have hSn := hHeld.ext (he1.trans he2)); (refine hK.out _ _ (fun _ => hSn) ?_); clear hK K; (try simp only [Act.put, xgD, xgE, xgF]))
   have hd4 : dlen v2.natAbs ≤ Kz := rb_cast HRKk.out hv2
   have hN3 : dlen ((v * z Lm).natAbs + v2.natAbs) ≤ 1099511627776 := Nat.le_trans (dlen_add _ _) (by omega)
   ((refine wpAnyU_one 15 (o := ?_) (by kernel_rfl) ?_ ?_; rotate_left 1; (simp only [xgA, xgB, xgC]; rfl); intro K hK); go_simp; (refine (int_add _ _ _ _ (v * z Lm) v2 _ (HMB.out.ext (he1.trans he2)) (hu1.ext he2).toV hu2 hN3).mono ?_); rintro e_ wz ⟨u2, u3, rfl, hu3, he3⟩; go_wp2_with (fail); (try clear hSn); (have hSn := hHeld.ext ((he1.trans he2).trans he3)); (refine hK.out _ _ (fun _ => hSn) ?_); clear hK K; (try simp only [Act.put, xgD, xgE, xgF]))
   rename_i wz
   obtain ⟨b6, a6, n6, p6, rfl, rfl⟩ := hu3.form
   have HEL := Lib.hid ((he1.trans he2).trans he3)
   have HBz := HGS.out.ext HEL.out
   have hgz := HEr.out.trans HEL.out
   have HU3 := Lib.hid hu3
   have HV2 : Hid (((v * z Lm + v2 : Int) : Rat) = hv (zq z Lm) (fun i => evT (zq z) (terms d (t.2.2.2 i))) x.kn (x.kn - k)) := by
    show _ = _
    rw [HXN.out, Rat.intCast_add, Rat.intCast_mul, HV.out, hv2]; rfl
   clear he1 he2 he3 hu1 hu2 hu3 hSn hHeld hd3 hd4 hN3 hv2
   obtain ⟨⟨q0, q1, f0, f1⟩, _, hkp, hext⟩ := fin2 (M' := fun g => Mx M w.heap.size (w.heap.size + 2) g ∨ g = G) (w := W) (.bool b6) (.slice a6 n6 p6) HBz (.inr rfl) (by rw [HGW.out]; exact Nat.le_refl _) hgz
   have HBN := Lib.hid ((HBz.set 0 (.bool b6)).set 1 (.slice a6 n6 p6))
   have HSN := Lib.hid (HU3.out.kp hkp).toV
   have HEN := Lib.hid hext
   simp only [arr] at q0 q1
   clear hkp hext HBz hgz HU3 HSX HGS HAX HY HQd HSS
   ((refine wpAnyU_one 16 (o := ?_) (by kernel_rfl) ?_ ?_; rotate_left 1; (simp only [xgA, xgB, xgC]; rfl); intro K hK); go_simp; (refine hK.out _ _ (fun h => absurd rfl h) ?_); clear hK K; refine wpAnyU_done (by kernel_rfl) ?_ _)
   go_wp2
   go_roundw
   case rel => exact ⟨k, ⟨b6, a6, n6, p6⟩, v * z Lm + v2, by omega, rfl, HBN.out.congr (fun i hi => by
    have : i = 0 ∨ i = 1 := by omega
    rcases this with rfl | rfl <;> rfl), HSN, HV2, HEN⟩
   case measure => simp [intOf]
theorem vl_all (A : Nat) (hA : 1 ≤ A) : ∀ d, VlCtr A d
 | 0 => fun M t x a cap X z w hM h _ _ _ => h.elim
 | d + 1 => fun M t x a cap X z w hM h hq hz hsz => by
  by_cases h1 : t.1 ≤ 0
  ·exact vl_leaf A d M t x a cap z w hM h h1
  ·by_cases h2 : 4 < t.1
   ·exact vl_high A d M t x a cap z w hM h h2
   ·exact vl_loop A d hA (vl_all A hA d) M t x a cap X z w hM h hq hz hsz (by omega)
end Go.Proofs.YtodiphjjdheoaaaGreat
