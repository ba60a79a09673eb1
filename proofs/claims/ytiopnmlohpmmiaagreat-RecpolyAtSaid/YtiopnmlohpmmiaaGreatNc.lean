/- rational: numbers in memory; parts, reduce, From, Of, Normal, Mul, Add, Cmp. rational: reduce, From, Of, Normal. rational: Mul, Add, Cmp. rows of rational numbers; recpoly.Eval. -/
import Derived.Test.YtiopnmlohpmmiaaGreatNr
import Derived.Test.YtiopnmlohpmmiaaGreatNb
set_option linter.unusedVariables false
set_option linter.unusedSimpArgs false

namespace Go.Proofs.YtiopnmlohpmmiaaGreat
open Go.RowKit

/-- a rational number as it lies in three cells -/
structure RE where
  b : Bool
  a : Option Addr
  n : Nat
  p : Nat
  da : Option Addr
  dn : Nat
  dp : Nat
instance : Inhabited RE := ⟨⟨false, none, 0, 0, none, 0, 0⟩⟩
abbrev reA (r : RE) : Array Value := #[.bool r.b, .slice r.a r.n r.p, .slice r.da r.dn r.dp]
/-- three cells hold the rational q, in any form, with at most N digits -/
def RatX (M : Nat → Prop) (w : World) (N : Nat) (r : RE) (q : Rat) : Prop := ∃ (z : Int) (d : Nat), IntV M w (.bool r.b) (.slice r.a r.n r.p) z ∧ NatV M w (.slice r.da r.dn r.dp) d ∧ dlen z.natAbs ≤ N ∧ dlen d ≤ N ∧ q = mkRat z d
/-- .. in lowest terms -/
def RatC (M : Nat → Prop) (w : World) (r : RE) (q : Rat) : Prop := IntC M w (.bool r.b) (.slice r.a r.n r.p) q.num ∧ NatC M w (.slice r.da r.dn r.dp) q.den
section
variable {M M' : Nat → Prop} {w w' : World} {N : Nat} {r : RE} {q : Rat}
theorem RatX.kp (h : RatX M w N r q) (he : Kp M w w') : RatX M w' N r q := by
  obtain ⟨z, d, h1, h2, h3⟩ := h; exact ⟨z, d, h1.kp he, h2.kp he, h3⟩
theorem RatX.ext (h : RatX M w N r q) (he : Ext w w') : RatX M w' N r q := h.kp (Kp.of_ext he)
theorem RatX.more (h : RatX M w N r q) (hm : ∀ g, M' g → M g ∨ w.heap.size ≤ g) : RatX M' w N r q := by
  obtain ⟨z, d, h1, h2, h3⟩ := h; exact ⟨z, d, h1.more hm, h2.more hm, h3⟩
theorem RatX.mono {K : Nat} (h : RatX M w N r q) (hk : N ≤ K) : RatX M w K r q := by
  obtain ⟨z, d, h1, h2, h3, h4, h5⟩ := h; exact ⟨z, d, h1, h2, Nat.le_trans h3 hk, Nat.le_trans h4 hk, h5⟩
theorem RatX.rb (h : RatX M w N r q) (hN : 1 ≤ N) : rb N q := by
  obtain ⟨z, d, h1, h2, h3, h4, rfl⟩ := h; exact rb_mkRat h3 h4 hN
theorem RatC.kp (h : RatC M w r q) (he : Kp M w w') : RatC M w' r q := ⟨h.1.kp he, h.2.kp he⟩
theorem RatC.ext (h : RatC M w r q) (he : Ext w w') : RatC M w' r q := h.kp (Kp.of_ext he)
theorem RatC.more (h : RatC M w r q) (hm : ∀ g, M' g → M g ∨ w.heap.size ≤ g) : RatC M' w r q := ⟨h.1.more hm, h.2.more hm⟩
theorem RatC.toX (h : RatC M w r q) (hb : Go.Proofs.YtiopnmlohpmmiaaGreat.rb N q) : RatX M w N r q := ⟨q.num, q.den, h.1.toV, h.2.toV, hb.1, hb.2, (Rat.mkRat_self q).symm⟩
end
/-- a rational number is returned -/
def RetR (M : Nat → Prop) (w : World) (q : Rat) (e : Ending) (w' : World) : Prop := ∃ r : RE, e = .returned (.agg (reA r)) ∧ RatC M w' r q ∧ Ext w w'
def PartsRet (M : Nat → Prop) (w : World) (N : Nat) (q : Rat) (e : Ending) (w' : World) : Prop := ∃ (b : Bool) (a : Option Addr) (n p : Nat) (b2 : Bool) (a2 : Option Addr) (n2 p2 : Nat) (z : Int) (d : Nat), e = .returned (.tuple #[.agg #[.bool b, .slice a n p], .agg #[.bool b2, .slice a2 n2 p2]]) ∧
  IntV M w' (.bool b) (.slice a n p) z ∧ IntV M w' (.bool b2) (.slice a2 n2 p2) (d : Int) ∧ d ≠ 0 ∧ dlen z.natAbs ≤ N ∧ dlen d ≤ N ∧ q = mkRat z d ∧ Ext w w'
/-- the cells of a rational -/
def R3 (g : Nat) (r : RE) (w : World) : Prop := w.cell? ⟨g, 0, none⟩ = some (.bool r.b) ∧ w.cell? ⟨g, 1, none⟩ = some (.slice r.a r.n r.p) ∧ w.cell? ⟨g, 2, none⟩ = some (.slice r.da r.dn r.dp)
theorem R3.ext {g : Nat} {r : RE} {w w' : World} (k : R3 g r w) (he : Ext w w') : R3 g r w' := by
  have h1 := World.block_lt_of_cell? _ _ k.1
  exact ⟨by rw [he.cell h1]; exact k.1, by rw [he.cell h1]; exact k.2.1, by rw [he.cell h1]; exact k.2.2⟩
theorem Blk.r3 {w : World} {g : Nat} {t : TypeId} {r : RE} (h : Blk w g t 3 (arr (reA r))) : R3 g r w := ⟨h.cell (i := 0) (by omega), h.cell (i := 1) (by omega), h.cell (i := 2) (by omega)⟩
set_option maxRecDepth 100000 in
set_option maxHeartbeats 4000000 in
theorem rat_parts {M : Nat → Prop} (N : Nat) (r : RE) (q : Rat) (w : World) (hM : Mb M w) (h : RatX M w N r q) (hN : 1 ≤ N) :
    Calls Tryz.prog 117 #[.agg (reA r)] w (PartsRet M w N q) := by
  have hB0 := ((Blk.of_arr w (reA r) 58 3 rfl).alloc (.cells zI 25)).alloc (.cells zI 25)
  have hB1 := (Blk.of_arr (w.alloc (.cells (reA r) 58)) zI 25 2 rfl).alloc (.cells zI 25)
  have hB2 := Blk.of_arr ((w.alloc (.cells (reA r) 58)).alloc (.cells zI 25)) zI 25 2 rfl
  have hE0 : Ext w (((w.alloc (.cells (reA r) 58)).alloc (.cells zI 25)).alloc (.cells zI 25)) := (((Ext.refl w).alloc _).alloc _).alloc _
  simp only [World.size_alloc] at hB1 hB2
  have hM0 : Mb (Mx M w.heap.size (w.heap.size + 3)) (((w.alloc (.cells (reA r) 58)).alloc (.cells zI 25)).alloc (.cells zI 25)) := Mx.mb hM (by simp; omega) (by simp)
  have h0 := (h.more (M' := Mx M w.heap.size (w.heap.size + 3)) (Mx.more (Nat.le_refl _))).ext hE0
  generalize hW0 : ((w.alloc (.cells (reA r) 58)).alloc (.cells zI 25)).alloc (.cells zI 25) = W0 at *
  have HW0 := Lib.hid hW0
  have HB1 := Lib.hid hB1
  have HB2 := Lib.hid hB2
  have HE0 := Lib.hid hE0
  have HM0 := Lib.hid hM0
  obtain ⟨z, d, hz, hd, hzN, hdN, hq⟩ := h0
  have HZ := Lib.hid hz
  have HD := Lib.hid hd
  have HQ := Lib.hid hq
  obtain ⟨c0, c1, c2⟩ := hB0.r3
  have HR3 : Hid (R3 w.heap.size r W0) := ⟨c0, c1, c2⟩
  have g0 := hB0.lt
  have CTR := Lib.hid (nat_isZero (.slice r.da r.dn r.dp) d W0 hd)
  clear h hM hW0 hB0 hB1 hB2 hE0 hM0 hz hd hq
  by_cases hd0 : d = 0
  · have hdb : decide (d = 0) = true := by simp [hd0]
    rw [hdb] at CTR
    have HQ0 : Hid (q = mkRat 0 1) := by show q = mkRat 0 1; rw [HQ.out, hd0]; simp
    clear hdb hd0 HD HZ HQ hzN hdN
    go_enter Tryz.func117, Tryz.ntmps117
    go_upto_region 1 with (fail)
    rw [HW0.out]
    go_wp2_with (fail)
    refine CTR.out.mono ?_
    rintro e w1 ⟨rfl, rfl⟩
    clear CTR
    have CT2 := Lib.hid (int_of 1 W0 HM0.out (by omega) (by omega))
    go_wp2_with (fail)
    refine CT2.out.mono ?_
    rintro e w2 ⟨k0, k1, rfl, hk, he2⟩
    obtain ⟨kb, ka, kn, kp, rfl, rfl⟩ := hk.form
    obtain ⟨WA, WB, hWA, hWB, ⟨q0, q1, q2, q3⟩, ⟨p0, p1, p2, p3⟩, ⟨r0, r1, r2, r3⟩, hkp, hext, hcA, hcB, _⟩ := fin22 (M' := Mx M w.heap.size (w.heap.size + 3)) (w := w) (.bool false) (.slice none 0 0) (.bool kb) (.slice ka kn kp) (HB1.out.ext he2) (HB2.out.ext he2) (by omega) (Mx.at (by omega)) (Mx.at (by omega)) (by omega) (by omega) (HE0.out.trans he2)
    have HF : Hid (PartsRet M w N q (.returned (.tuple #[.agg #[.bool false, .slice none 0 0], .agg #[.bool kb, .slice ka kn kp]])) WB) :=
      ⟨_, _, _, _, _, _, _, _, 0, 1, rfl, (IntC.zero M WB).toV, ((hk.kp hkp).more Mx.less).toV, by omega, by show 0 ≤ N; omega, by rw [dlen_one]; exact hN, HQ0.out, hext⟩
    have s0 := (HB2.out.ext he2).cell (i := 0) (by omega)
    have s1 := (HB2.out.ext he2).cell (i := 1) (by omega)
    have s2 := (HB2.out.ext he2).frozen 0
    have s3 := (HB2.out.ext he2).frozen 1
    rw [hWA] at hWB
    have HWB := Lib.hid hWB
    simp only [arr] at q0 q1 s0 s1
    clear CT2 hk he2 hkp hext hcA hcB p0 p1 p2 p3 hWA hWB c0 c1 c2 g0 HR3
    go_wp2
    rw [← HWB.out]
    exact bodyPost_ret (v := .tuple #[.agg #[.bool false, .slice none 0 0], .agg #[.bool kb, .slice ka kn kp]]) (by simp [results, Tryz.results117, go_sem, r0, r1, r2, r3]) rfl HF.out
  · have hdb : decide (d = 0) = false := by simp [hd0]
    rw [hdb] at CTR
    clear hdb
    go_enter Tryz.func117, Tryz.ntmps117
    go_upto_region 1 with (fail)
    rw [HW0.out]
    go_wp2_with (fail)
    refine CTR.out.mono ?_
    rintro e w1 ⟨rfl, rfl⟩
    clear CTR
    obtain ⟨WA, WB, hWA, hWB, ⟨q0, q1, q2, q3⟩, ⟨p0, p1, p2, p3⟩, ⟨r0, r1, r2, r3⟩, hkp, hext, hcA, hcB, _⟩ := fin22 (M' := Mx M w.heap.size (w.heap.size + 3)) (w := w) (.bool r.b) (.slice r.a r.n r.p) (.bool false) (.slice r.da r.dn r.dp) (HB1.out.ext (Ext.refl _).drew) (HB2.out.ext (Ext.refl _).drew) (by omega) (Mx.at (by omega)) (Mx.at (by omega)) (by omega) (by omega) (HE0.out.drew)
    have HSS : Hid (R3 w.heap.size r W0.drew) := HR3.out.ext (Ext.refl _).drew
    have HSA : Hid (R3 w.heap.size r WA) := ⟨by rw [hcA _ _ (by omega)]; exact HSS.out.1, by rw [hcA _ _ (by omega)]; exact HSS.out.2.1, by rw [hcA _ _ (by omega)]; exact HSS.out.2.2⟩
    have HF : Hid (PartsRet M w N q (.returned (.tuple #[.agg #[.bool r.b, .slice r.a r.n r.p], .agg #[.bool false, .slice r.da r.dn r.dp]])) WB) :=
      ⟨_, _, _, _, _, _, _, _, z, d, rfl, ((HZ.out.ext (Ext.refl _).drew).kp hkp).more Mx.less, ⟨false, d, rfl, ((HD.out.ext (Ext.refl _).drew).kp hkp).more Mx.less, by simp [sgn]⟩, hd0, hzN, hdN, HQ.out, hext⟩
    have HWA := Lib.hid hWA
    have HWB := Lib.hid hWB
    have HPA : Hid ((WA.cell? ⟨w.heap.size + 1 + 1, 0, none⟩ = some (.bool false) ∧ WA.cell? ⟨w.heap.size + 1 + 1, 1, none⟩ = some (.slice none 0 0)) ∧ WA.frozen? ⟨w.heap.size + 1 + 1, 0, none⟩ = false ∧ WA.frozen? ⟨w.heap.size + 1 + 1, 1, none⟩ = false) := ⟨⟨p0, p1⟩, p2, p3⟩
    simp only [arr] at q0 q1
    clear hkp hext hcA hcB p0 p1 p2 p3 hWA hWB c0 c1 c2 HR3
    go_wp2
    refine wp_region_u (R3 w.heap.size r) 6 (by kernel_rfl) HSS.out (fun hHeld => ?_)
    generalize W0.drew = WD at *
    ((refine wpAnyU_take 0 (oi := ?_) (v := ?_) (by kernel_rfl) (by kernel_rfl) (by kernel_rfl) (by kernel_rfl) (by first | exact hSn | exact hHeld) ?_ ?_ ?_ ?_ ?_; rotate_left 2; (simp only [List.getElem?_toArray, List.getElem?_cons_succ, List.getElem?_cons_zero]; rfl); rfl; (intro wS hSw; obtain ⟨S1, S2, S3⟩ := hSw; go_simp; try with_reducible rfl); (exact fun _ _ _ h => h); (try simp only [Act.put, List.setIfInBounds_toArray, List.set_cons_zero, List.set_cons_succ])); (refine wpAnyU_take 1 (oi := ?_) (v := ?_) (by kernel_rfl) (by kernel_rfl) (by kernel_rfl) (by kernel_rfl) (by first | exact hSn | exact hHeld) ?_ ?_ ?_ ?_ ?_; rotate_left 2; (simp only [List.getElem?_toArray, List.getElem?_cons_succ, List.getElem?_cons_zero]; rfl); rfl; (intro wS hSw; obtain ⟨S1, S2, S3⟩ := hSw; go_simp; try with_reducible rfl); (exact fun _ _ _ h => h); (try simp only [Act.put, List.setIfInBounds_toArray, List.set_cons_zero, List.set_cons_succ])); (refine wpAnyU_take 2 (oi := ?_) (v := ?_) (by kernel_rfl) (by kernel_rfl) (by kernel_rfl) (by kernel_rfl) (by first | exact hSn | exact hHeld) ?_ ?_ ?_ ?_ ?_; rotate_left 2; (simp only [List.getElem?_toArray, List.getElem?_cons_succ, List.getElem?_cons_zero]; rfl); rfl; (intro wS hSw; obtain ⟨S1, S2, S3⟩ := hSw; go_simp; try with_reducible rfl); (exact fun _ _ _ h => h); (try simp only [Act.put, List.setIfInBounds_toArray, List.set_cons_zero, List.set_cons_succ])); (refine wpAnyU_take 3 (oi := ?_) (v := ?_) (by kernel_rfl) (by kernel_rfl) (by kernel_rfl) (by kernel_rfl) (by first | exact hSn | exact hHeld) ?_ ?_ ?_ ?_ ?_; rotate_left 2; (simp only [List.getElem?_toArray, List.getElem?_cons_succ, List.getElem?_cons_zero]; rfl); rfl; (intro wS hSw; obtain ⟨S1, S2, S3⟩ := hSw; go_simp; try with_reducible rfl); (exact fun _ _ _ h => h); (try simp only [Act.put, List.setIfInBounds_toArray, List.set_cons_zero, List.set_cons_succ])); (refine wpAnyU_take 4 (oi := ?_) (v := ?_) (by kernel_rfl) (by kernel_rfl) (by kernel_rfl) (by kernel_rfl) (by first | exact hSn | exact hHeld) ?_ ?_ ?_ ?_ ?_; rotate_left 2; (simp only [List.getElem?_toArray, List.getElem?_cons_succ, List.getElem?_cons_zero]; rfl); rfl; (intro wS hSw; obtain ⟨S1, S2, S3⟩ := hSw; go_simp; try with_reducible rfl); (exact fun _ _ _ h => h); (try simp only [Act.put, List.setIfInBounds_toArray, List.set_cons_zero, List.set_cons_succ])))
    (refine wpAnyU_one 5 (o := ?_) (by kernel_rfl) ?_ ?_; rotate_left 1; (simp only [List.getElem?_toArray, List.getElem?_cons_succ, List.getElem?_cons_zero]; rfl); intro K hK)
    go_simp
    rw [← HWA.out]
    refine hK.out _ _ (fun _ => HSA.out) ?_
    clear hK K q0 q1 q2 q3 HWA
    (try simp only [Act.put, List.setIfInBounds_toArray, List.set_cons_zero, List.set_cons_succ])
    obtain ⟨⟨p0, p1⟩, p2, p3⟩ := HPA.out
    (refine wpAnyU_one 6 (o := ?_) (by kernel_rfl) ?_ ?_; rotate_left 1; (simp only [List.getElem?_toArray, List.getElem?_cons_succ, List.getElem?_cons_zero]; rfl); intro K hK)
    go_simp
    rw [← HWB.out]
    refine hK.out _ _ (fun h => absurd rfl h) ?_
    clear hK K p0 p1 p2 p3 HWB
    refine wpAnyU_done (by kernel_rfl) ?_ _
    go_wp2
    exact bodyPost_ret (v := .tuple #[.agg #[.bool r.b, .slice r.a r.n r.p], .agg #[.bool false, .slice r.da r.dn r.dp]]) (by simp [results, Tryz.results117, go_sem, r0, r1, r2, r3]) rfl HF.out
end Go.Proofs.YtiopnmlohpmmiaaGreat

namespace Go.Proofs.YtiopnmlohpmmiaaGreat
open Go.RowKit

theorem Blk.set2 {w : World} {g : Nat} {t : TypeId} {f : Nat → Value} (h : Blk w g t 2 f) (A B : Value) : Blk ((w.setCell ⟨g, 0, none⟩ A).setCell ⟨g, 1, none⟩ B) g t 2 (arr #[A, B]) :=
  ((h.set 0 A).set 1 B).congr fun i hi => by
    have : i = 0 ∨ i = 1 := by omega
    rcases this with rfl | rfl <;> rfl
theorem Blk.set2_other {w : World} {g h : Nat} {t : TypeId} {n : Nat} {f : Nat → Value} (k : Blk w h t n f) (hne : h ≠ g) (A B : Value) : Blk ((w.setCell ⟨g, 0, none⟩ A).setCell ⟨g, 1, none⟩ B) h t n f :=
  (k.set_other (p := ⟨g, 0, none⟩) hne A).set_other (p := ⟨g, 1, none⟩) hne B
/-- the last store of a function whose result has three cells -/
theorem fin3 {M' : Nat → Prop} {w W : World} {g : Nat} {t : TypeId} {f : Nat → Value} (A B C : Value) (hB : Blk W g t 3 f) (hg : M' g) (hw : w.heap.size ≤ g) (he : Ext w W) :
    (W.cell? ⟨g, 0, none⟩ = some (f 0) ∧ W.cell? ⟨g, 1, none⟩ = some (f 1) ∧ W.cell? ⟨g, 2, none⟩ = some (f 2) ∧ W.frozen? ⟨g, 0, none⟩ = false ∧ W.frozen? ⟨g, 1, none⟩ = false ∧ W.frozen? ⟨g, 2, none⟩ = false) ∧
    ((((W.setCell ⟨g, 0, none⟩ A).setCell ⟨g, 1, none⟩ B).setCell ⟨g, 2, none⟩ C).cell? ⟨g, 0, none⟩ = some A ∧ (((W.setCell ⟨g, 0, none⟩ A).setCell ⟨g, 1, none⟩ B).setCell ⟨g, 2, none⟩ C).cell? ⟨g, 1, none⟩ = some B ∧ (((W.setCell ⟨g, 0, none⟩ A).setCell ⟨g, 1, none⟩ B).setCell ⟨g, 2, none⟩ C).cell? ⟨g, 2, none⟩ = some C) ∧
    Kp M' W (((W.setCell ⟨g, 0, none⟩ A).setCell ⟨g, 1, none⟩ B).setCell ⟨g, 2, none⟩ C) ∧ Ext w (((W.setCell ⟨g, 0, none⟩ A).setCell ⟨g, 1, none⟩ B).setCell ⟨g, 2, none⟩ C) := by
  have hB3 := ((hB.set 0 A).set 1 B).set 2 C
  refine ⟨⟨hB.cell (by omega), hB.cell (by omega), hB.cell (by omega), hB.frozen 0, hB.frozen 1, hB.frozen 2⟩, ⟨?_, ?_, ?_⟩, ((Kp.set _ _ hg _).trans (Kp.set _ _ hg _)).trans (Kp.set _ _ hg _), ((he.set hw _).set hw _).set hw _⟩
  · rw [hB3.cell (i := 0) (by omega)]; simp [upd]
  · rw [hB3.cell (i := 1) (by omega)]; simp [upd]
  · rw [hB3.cell (i := 2) (by omega)]; simp [upd]
theorem red_num (z : Int) (d : Nat) (hd : d ≠ 0) : z.tdiv (Nat.gcd z.natAbs d : Nat) = (mkRat z d).num := by
  rw [Rat.num_mkRat, if_neg hd, Nat.gcd_comm]
  exact Int.tdiv_eq_ediv_of_dvd (Int.ofNat_dvd_left.2 (Nat.gcd_dvd_right _ _))
theorem red_den (z : Int) (d : Nat) (hd : d ≠ 0) : ((d : Int).tdiv (Nat.gcd z.natAbs d : Nat)).natAbs = (mkRat z d).den := by
  rw [Rat.den_mkRat, if_neg hd, Nat.gcd_comm, Int.natAbs_tdiv]; rfl
abbrev zR : Array Value := #[.bool false, .slice none 0 0, .slice none 0 0]
set_option maxRecDepth 100000 in
set_option maxHeartbeats 8000000 in
theorem rat_reduce {M : Nat → Prop} (b : Bool) (a : Option Addr) (n p : Nat) (z : Int) (b' : Bool) (a' : Option Addr) (n' p' : Nat) (d : Nat) (w : World) (hM : Mb M w) (h : IntV M w (.bool b) (.slice a n p) z) (h' : IntV M w (.bool b') (.slice a' n' p') (d : Int)) (hd : d ≠ 0) (hL : dlen z.natAbs + 1 ≤ 1099511627776) (hL' : dlen d + 1 ≤ 1099511627776) :
    Calls Tryz.prog 116 #[.agg #[.bool b, .slice a n p], .agg #[.bool b', .slice a' n' p']] w (RetR M w (mkRat z d)) := by
  have hB0 := ((Blk.of_arr w #[.bool b, .slice a n p] 25 2 rfl).alloc (.cells #[.bool b', .slice a' n' p'] 25)).alloc (.cells zR 58)
  have hB1 := (Blk.of_arr (w.alloc (.cells #[.bool b, .slice a n p] 25)) #[.bool b', .slice a' n' p'] 25 2 rfl).alloc (.cells zR 58)
  have hB2 := Blk.of_arr ((w.alloc (.cells #[.bool b, .slice a n p] 25)).alloc (.cells #[.bool b', .slice a' n' p'] 25)) zR 58 3 rfl
  have hE0 : Ext w (((w.alloc (.cells #[.bool b, .slice a n p] 25)).alloc (.cells #[.bool b', .slice a' n' p'] 25)).alloc (.cells zR 58)) := (((Ext.refl w).alloc _).alloc _).alloc _
  simp only [World.size_alloc] at hB1 hB2
  have hM0 : Mb (Mx M w.heap.size (w.heap.size + 3)) (((w.alloc (.cells #[.bool b, .slice a n p] 25)).alloc (.cells #[.bool b', .slice a' n' p'] 25)).alloc (.cells zR 58)) := Mx.mb hM (by simp; omega) (by simp)
  have h0 := (h.more (M' := Mx M w.heap.size (w.heap.size + 3)) (Mx.more (Nat.le_refl _))).ext hE0
  have h0' := (h'.more (M' := Mx M w.heap.size (w.heap.size + 3)) (Mx.more (Nat.le_refl _))).ext hE0
  generalize hW0 : ((w.alloc (.cells #[.bool b, .slice a n p] 25)).alloc (.cells #[.bool b', .slice a' n' p'] 25)).alloc (.cells zR 58) = W0 at *
  have HW0 := Lib.hid hW0
  have HB0 := Lib.hid hB0
  have HB1 := Lib.hid hB1
  have HB2 := Lib.hid hB2
  have HE0 := Lib.hid hE0
  have HM0 := Lib.hid hM0
  have HI0 := Lib.hid h0
  have HI1 := Lib.hid h0'
  have c0 := hB0.cell (i := 0) (by omega)
  have c1 := hB0.cell (i := 1) (by omega)
  have c2 := hB1.cell (i := 0) (by omega)
  have c3 := hB1.cell (i := 1) (by omega)
  simp only [arr] at c0 c1 c2 c3
  have g0 := hB0.lt
  have g1 := hB1.lt
  have ctr := dv_gcd b a n p z b' a' n' p' (d : Int) W0 hM0 h0 h0' hL (by rw [Int.natAbs_natCast]; exact hL')
  have CTR := Lib.hid ctr
  clear h h' hM hW0 hB0 hB1 hB2 hE0 hM0 h0 h0' ctr
  go_enter Tryz.func116, Tryz.ntmps116
  go_upto_region 1 with (fail)
  rw [HW0.out]
  go_wp2_with (fail)
  refine CTR.out.mono ?_
  rintro e w1 ⟨gb, ga, gn, gp, rfl, hg, he1⟩
  clear CTR c0 c1 c2 c3 g0 g1
  rw [Int.natAbs_natCast] at hg
  go_upto_region 2 with (fail)
  have hEA : Ext w1 (w1.alloc (.cells #[.bool gb, .slice ga gn gp] 25)) := (Ext.refl _).alloc _
  have hBg := Blk.of_arr w1 #[.bool gb, .slice ga gn gp] 25 2 rfl
  have hb0 := (HB0.out.ext he1).ext hEA
  have hb1 := (HB1.out.ext he1).ext hEA
  have hb2 := (HB2.out.ext he1).ext hEA
  have hE1 := he1.trans hEA
  have hg1 := hg.ext hEA
  have hng : w.heap.size + 3 ≤ w1.heap.size := by have := (HB2.out.ext he1).lt; omega
  generalize hG : w1.heap.size = G at *
  generalize hW1 : w1.alloc (.cells #[.bool gb, .slice ga gn gp] 25) = W1 at *
  clear hW1 hG hEA he1 hg
  have HG := Lib.hid hBg
  have HB0 := Lib.hid hb0
  have HB1 := Lib.hid hb1
  have HB2 := Lib.hid hb2
  have HE1 := Lib.hid hE1
  have HGI := Lib.hid hg1
  have c0 := hb0.cell (i := 0) (by omega)
  have c1 := hb0.cell (i := 1) (by omega)
  have c2 := hBg.cell (i := 0) (by omega)
  have c3 := hBg.cell (i := 1) (by omega)
  simp only [arr] at c0 c1 c2 c3
  have g0 := hb0.lt
  have g1 := hBg.lt
  have hgz : (((Nat.gcd z.natAbs d : Nat)) : Int) ≠ 0 := by
    have := Nat.gcd_pos_of_pos_right z.natAbs (Nat.pos_of_ne_zero hd)
    omega
  have CTR := Lib.hid (dv_quo b a n p z gb ga gn gp _ W1 (HM0.out.ext hE1) (HI0.out.ext hE1) hg1.toV hgz hL)
  clear hBg hb0 hb1 hb2 hE1 hg1
  go_wp2_with (fail)
  refine CTR.out.mono ?_
  rintro e w2 ⟨qb, qa, qn, qp, sb, sa, sn, sp, rfl, hq, _, he2⟩
  rw [red_num z d hd] at hq
  have hb0 := HB0.out.ext he2
  obtain ⟨⟨q0, q1, f0, f1⟩, ⟨r0, r1⟩, hkp, hext⟩ := fin2 (M' := Mx M w.heap.size (w.heap.size + 3)) (w := w) (.bool qb) (.slice qa qn qp) hb0 (Mx.at (by omega)) (by omega) ((HE0.out.trans HE1.out).trans he2)
  have HB0' := Lib.hid (hb0.set2 (.bool qb) (.slice qa qn qp))
  have HB1' := Lib.hid ((HB1.out.ext he2).set2_other (g := w.heap.size) (by omega) (.bool qb) (.slice qa qn qp))
  have HB2' := Lib.hid ((HB2.out.ext he2).set2_other (g := w.heap.size) (by omega) (.bool qb) (.slice qa qn qp))
  have HG' := Lib.hid ((HG.out.ext he2).set2_other (g := w.heap.size) (by omega) (.bool qb) (.slice qa qn qp))
  have HQ := Lib.hid (hq.kp hkp)
  have HGI' := Lib.hid ((HGI.out.ext he2).kp hkp)
  have HI1' := Lib.hid (((HI1.out.ext HE1.out).ext he2).kp hkp)
  have HX2 := Lib.hid hext
  have HM2 : Hid (Mb (Mx M w.heap.size (w.heap.size + 3)) ((w2.setCell ⟨w.heap.size, 0, none⟩ (.bool qb)).setCell ⟨w.heap.size, 1, none⟩ (.slice qa qn qp))) := ((HM0.out.ext HE1.out).ext he2).size hkp.1
  simp only [arr] at q0 q1
  have g2 := hb0.lt
  clear c0 c1 c2 c3 g0 g1 r0 r1 hq he2 hb0 hkp hext CTR HB0 HB1 HB2 HG HGI HI0 HI1 HE0
  go_upto_region 3 with (fail)
  generalize (w2.setCell ⟨w.heap.size, 0, none⟩ (.bool qb)).setCell ⟨w.heap.size, 1, none⟩ (.slice qa qn qp) = W2 at *
  clear q0 q1 f0 f1 g2
  have c0 := HB1'.out.cell (i := 0) (by omega)
  have c1 := HB1'.out.cell (i := 1) (by omega)
  have c2 := HG'.out.cell (i := 0) (by omega)
  have c3 := HG'.out.cell (i := 1) (by omega)
  simp only [arr] at c0 c1 c2 c3
  have g0 := HB1'.out.lt
  have g1 := HG'.out.lt
  have CTR := Lib.hid (dv_quo b' a' n' p' (d : Int) gb ga gn gp _ W2 HM2.out HI1'.out HGI'.out.toV hgz (by rw [Int.natAbs_natCast]; exact hL'))
  go_wp2_with (fail)
  refine CTR.out.mono ?_
  rintro e w3 ⟨db, da, dn, dp, sb2, sa2, sn2, sp2, rfl, hdq, _, he3⟩
  have hdq := hdq.1
  rw [red_den z d hd] at hdq
  have hb1 := HB1'.out.ext he3
  obtain ⟨⟨q0, q1, f0, f1⟩, ⟨r0, r1⟩, hkp, hext⟩ := fin2 (M' := Mx M w.heap.size (w.heap.size + 3)) (w := w) (.bool db) (.slice da dn dp) hb1 (Mx.at (by omega)) (by omega) (HX2.out.trans he3)
  have HB0'' := Lib.hid ((HB0'.out.ext he3).set2_other (g := w.heap.size + 1) (by omega) (.bool db) (.slice da dn dp))
  have HB1'' := Lib.hid (hb1.set2 (.bool db) (.slice da dn dp))
  have HB2'' := Lib.hid ((HB2'.out.ext he3).set2_other (g := w.heap.size + 1) (by omega) (.bool db) (.slice da dn dp))
  have HQ'' := Lib.hid ((HQ.out.ext he3).kp hkp)
  have HDQ := Lib.hid (hdq.kp hkp)
  have HX3 := Lib.hid hext
  simp only [arr] at q0 q1
  have g2 := hb1.lt
  clear c0 c1 c2 c3 g0 g1 r0 r1 hdq he3 hb1 hkp hext CTR HB0' HB1' HB2' HG' HGI' HI1' HQ
  go_upto_region 4 with (fail)
  generalize (w3.setCell ⟨w.heap.size + 1, 0, none⟩ (.bool db)).setCell ⟨w.heap.size + 1, 1, none⟩ (.slice da dn dp) = W3 at *
  clear q0 q1 f0 f1 g2
  have c0 := HB0''.out.cell (i := 0) (by omega)
  have c1 := HB0''.out.cell (i := 1) (by omega)
  have c3 := HB1''.out.cell (i := 1) (by omega)
  have g0 := HB0''.out.lt
  have g1 := HB1''.out.lt
  obtain ⟨⟨q0, q1, q2, f0, f1, f2⟩, ⟨r0, r1, r2⟩, hkp, hext⟩ := fin3 (M' := Mx M w.heap.size (w.heap.size + 3)) (w := w) (.bool qb) (.slice qa qn qp) (.slice da dn dp) HB2''.out (Mx.at (by omega)) (by omega) HX3.out
  have HF : Hid (RetR M w (mkRat z d) (.returned (.agg #[.bool qb, .slice qa qn qp, .slice da dn dp])) (((W3.setCell ⟨w.heap.size + 1 + 1, 0, none⟩ (.bool qb)).setCell ⟨w.heap.size + 1 + 1, 1, none⟩ (.slice qa qn qp)).setCell ⟨w.heap.size + 1 + 1, 2, none⟩ (.slice da dn dp))) :=
    ⟨⟨qb, qa, qn, qp, da, dn, dp⟩, rfl, ⟨(HQ''.out.kp hkp).more Mx.less, (HDQ.out.kp hkp).more Mx.less⟩, hext⟩
  simp only [arr] at c0 c1 c3 q0 q1 q2
  clear hkp hext
  go_wp2
  exact bodyPost_ret (v := .agg #[.bool qb, .slice qa qn qp, .slice da dn dp]) (by simp [results, Tryz.results116, go_sem, r0, r1, r2]) rfl HF.out
set_option maxRecDepth 100000 in
set_option maxHeartbeats 4000000 in
theorem rat_from {M : Nat → Prop} (b : Bool) (a : Option Addr) (n p : Nat) (z : Int) (w : World) (hM : Mb M w) (h : IntV M w (.bool b) (.slice a n p) z) :
    Calls Tryz.prog 36 #[.agg #[.bool b, .slice a n p]] w (RetR M w (z : Rat)) := by
  have hE0 : Ext w ((w.alloc (.cells #[.bool b, .slice a n p] 25)).alloc (.cells zR 58)) := ((Ext.refl w).alloc _).alloc _
  have hB1 := Blk.of_arr (w.alloc (.cells #[.bool b, .slice a n p] 25)) zR 58 3 rfl
  simp only [World.size_alloc] at hB1
  have hM0 : Mb (Mx M w.heap.size (w.heap.size + 2)) ((w.alloc (.cells #[.bool b, .slice a n p] 25)).alloc (.cells zR 58)) := Mx.mb hM (by simp; omega) (by simp)
  have h0 := (h.more (M' := Mx M w.heap.size (w.heap.size + 2)) (Mx.more (Nat.le_refl _))).ext hE0
  have CTR := Lib.hid (int_normal _ _ z _ hM0 h0)
  have HB := Lib.hid hB1
  have HM := Lib.hid hM0
  have HE := Lib.hid hE0
  clear hE0 hB1 hM0 h0 h hM
  go_enter Tryz.func36, Tryz.ntmps36
  go_wp2_with (fail)
  refine CTR.out.mono ?_
  rintro e w1 ⟨d0, d1, rfl, hc, he1⟩
  obtain ⟨kb, ka, kn, kp, rfl, rfl⟩ := hc.form
  have CT2 := Lib.hid (nat_of (M := Mx M w.heap.size (w.heap.size + 2)) 1 w1 (HM.out.ext he1) (by omega))
  rw [show (((1 : Nat) : Int)) = 1 from rfl] at CT2
  clear CTR
  go_wp2_with (fail)
  refine CT2.out.mono ?_
  rintro e w2 ⟨u, rfl, hu, he2⟩
  obtain ⟨ua, un, up, rfl⟩ := hu.toV.form
  obtain ⟨⟨q0, q1, q2, f0, f1, f2⟩, ⟨r0, r1, r2⟩, hkp, hext⟩ := fin3 (M' := Mx M w.heap.size (w.heap.size + 2)) (w := w) (.bool kb) (.slice ka kn kp) (.slice ua un up) ((HB.out.ext he1).ext he2) (Mx.at (by omega)) (by omega) ((HE.out.trans he1).trans he2)
  have HF : Hid (RetR M w (z : Rat) (.returned (.agg #[.bool kb, .slice ka kn kp, .slice ua un up])) (((w2.setCell ⟨w.heap.size + 1, 0, none⟩ (.bool kb)).setCell ⟨w.heap.size + 1, 1, none⟩ (.slice ka kn kp)).setCell ⟨w.heap.size + 1, 2, none⟩ (.slice ua un up))) :=
    ⟨⟨kb, ka, kn, kp, ua, un, up⟩, rfl, ⟨((hc.ext he2).kp hkp).more Mx.less, (hu.kp hkp).more Mx.less⟩, hext⟩
  simp only [arr] at q0 q1 q2
  clear CT2 hc hu he1 he2 hkp hext
  go_wp2
  exact bodyPost_ret (v := .agg #[.bool kb, .slice ka kn kp, .slice ua un up]) (by simp [results, Tryz.results36, go_sem, r0, r1, r2]) rfl HF.out
set_option maxRecDepth 100000 in
set_option maxHeartbeats 4000000 in
theorem rat_of {M : Nat → Prop} (z : Int) (w : World) (hM : Mb M w) (h1 : -9223372036854775808 ≤ z) (h2 : z ≤ 9223372036854775807) :
    Calls Tryz.prog 110 #[.int .i64 z] w (RetR M w (z : Rat)) := by
  have hE0 : Ext w (w.alloc (.cells zR 58)) := (Ext.refl w).alloc _
  have hB1 := Blk.of_arr w zR 58 3 rfl
  have hM0 : Mb (Mx M w.heap.size (w.heap.size + 1)) (w.alloc (.cells zR 58)) := Mx.mb hM (by simp) (by simp)
  have CTR := Lib.hid (int_of z _ hM0 h1 h2)
  have HB := Lib.hid hB1
  have HM := Lib.hid hM0
  have HE := Lib.hid hE0
  clear hE0 hB1 hM0 hM
  go_enter Tryz.func110, Tryz.ntmps110
  go_wp2_with (fail)
  refine CTR.out.mono ?_
  rintro e w1 ⟨d0, d1, rfl, hc, he1⟩
  obtain ⟨kb, ka, kn, kp, rfl, rfl⟩ := hc.form
  have CT2 := Lib.hid (rat_from kb ka kn kp z w1 (HM.out.ext he1) hc.toV)
  clear CTR hc
  go_wp2_with (fail)
  refine CT2.out.mono ?_
  rintro e w2 ⟨r, rfl, hr, he2⟩
  obtain ⟨⟨q0, q1, q2, f0, f1, f2⟩, ⟨r0, r1, r2⟩, hkp, hext⟩ := fin3 (M' := Mx M w.heap.size (w.heap.size + 1)) (w := w) (.bool r.b) (.slice r.a r.n r.p) (.slice r.da r.dn r.dp) ((HB.out.ext he1).ext he2) (Mx.at (by omega)) (by omega) ((HE.out.trans he1).trans he2)
  have HF : Hid (RetR M w (z : Rat) (.returned (.agg (reA r))) (((w2.setCell ⟨w.heap.size, 0, none⟩ (.bool r.b)).setCell ⟨w.heap.size, 1, none⟩ (.slice r.a r.n r.p)).setCell ⟨w.heap.size, 2, none⟩ (.slice r.da r.dn r.dp))) :=
    ⟨r, rfl, (hr.kp hkp).more Mx.less, hext⟩
  simp only [arr] at q0 q1 q2
  clear CT2 hr he1 he2 hkp hext
  go_wp2
  exact bodyPost_ret (v := .agg (reA r)) (by simp [results, Tryz.results110, go_sem, r0, r1, r2]) rfl HF.out
set_option maxRecDepth 100000 in
set_option maxHeartbeats 4000000 in
theorem rat_normal {M : Nat → Prop} (N : Nat) (r : RE) (q : Rat) (w : World) (hM : Mb M w) (h : RatX M w N r q) (hN : 1 ≤ N) (hL : N + 1 ≤ 1099511627776) :
    Calls Tryz.prog 38 #[.agg (reA r)] w (RetR M w q) := by
  have hE0 : Ext w ((w.alloc (.cells (reA r) 58)).alloc (.cells zR 58)) := ((Ext.refl w).alloc _).alloc _
  have hB1 := Blk.of_arr (w.alloc (.cells (reA r) 58)) zR 58 3 rfl
  simp only [World.size_alloc] at hB1
  have hM0 : Mb (Mx M w.heap.size (w.heap.size + 2)) ((w.alloc (.cells (reA r) 58)).alloc (.cells zR 58)) := Mx.mb hM (by simp; omega) (by simp)
  have h0 := (h.more (M' := Mx M w.heap.size (w.heap.size + 2)) (Mx.more (Nat.le_refl _))).ext hE0
  have CTR := Lib.hid (rat_parts N r q _ hM0 h0 hN)
  have HB := Lib.hid hB1
  have HM := Lib.hid hM0
  have HE := Lib.hid hE0
  clear hE0 hB1 hM0 h0 h hM
  go_enter Tryz.func38, Tryz.ntmps38
  go_wp2_with (fail)
  refine CTR.out.mono ?_
  rintro e w1 ⟨b1, a1, n1, p1, b2, a2, n2, p2, z, d, rfl, hz, hd, hd0, hzN, hdN, rfl, he1⟩
  have CT2 := Lib.hid (rat_reduce b1 a1 n1 p1 z b2 a2 n2 p2 d w1 (HM.out.ext he1) hz hd hd0 (by omega) (by omega))
  clear CTR hz hd
  go_wp2_with (fail)
  refine CT2.out.mono ?_
  rintro e w2 ⟨s, rfl, hr, he2⟩
  obtain ⟨⟨q0, q1, q2, f0, f1, f2⟩, ⟨r0, r1, r2⟩, hkp, hext⟩ := fin3 (M' := Mx M w.heap.size (w.heap.size + 2)) (w := w) (.bool s.b) (.slice s.a s.n s.p) (.slice s.da s.dn s.dp) ((HB.out.ext he1).ext he2) (Mx.at (by omega)) (by omega) ((HE.out.trans he1).trans he2)
  have HF : Hid (RetR M w (mkRat z d) (.returned (.agg (reA s))) (((w2.setCell ⟨w.heap.size + 1, 0, none⟩ (.bool s.b)).setCell ⟨w.heap.size + 1, 1, none⟩ (.slice s.a s.n s.p)).setCell ⟨w.heap.size + 1, 2, none⟩ (.slice s.da s.dn s.dp))) :=
    ⟨s, rfl, (hr.kp hkp).more Mx.less, hext⟩
  simp only [arr] at q0 q1 q2
  clear CT2 hr he1 he2 hkp hext
  go_wp2
  exact bodyPost_ret (v := .agg (reA s)) (by simp [results, Tryz.results38, go_sem, r0, r1, r2]) rfl HF.out
end Go.Proofs.YtiopnmlohpmmiaaGreat

namespace Go.Proofs.YtiopnmlohpmmiaaGreat
open Go.RowKit

/-- the cells of four integers -/
structure S44 (g1 g2 g3 g4 : Nat) (x1 x2 x3 x4 : I4) (w : World) : Prop where
  a : C2 g1 x1 w
  b : C2 g2 x2 w
  c : C2 g3 x3 w
  d : C2 g4 x4 w
theorem S44.ext {g1 g2 g3 g4 : Nat} {x1 x2 x3 x4 : I4} {w w' : World} (k : S44 g1 g2 g3 g4 x1 x2 x3 x4 w) (he : Ext w w') : S44 g1 g2 g3 g4 x1 x2 x3 x4 w' := ⟨k.a.ext he, k.b.ext he, k.c.ext he, k.d.ext he⟩
theorem twoBox {w : World} {M : Nat → Prop} (hM : Mb M w) (x y : I4) : ∃ G W, G = w.heap.size ∧ W = (w.alloc (.cells (iA x) 25)).alloc (.cells (iA y) 25) ∧ C2 G x W ∧ C2 (G + 1) y W ∧ Ext w W ∧ G + 1 < W.heap.size := by
  have h1 := (Blk.of_arr w (iA x) 25 2 rfl).alloc (.cells (iA y) 25)
  have h2 := Blk.of_arr (w.alloc (.cells (iA x) 25)) (iA y) 25 2 rfl
  simp only [World.size_alloc] at h2
  exact ⟨_, _, rfl, rfl, ⟨h1.cell (i := 0) (by omega), h1.cell (i := 1) (by omega)⟩, ⟨h2.cell (i := 0) (by omega), h2.cell (i := 1) (by omega)⟩, ((Ext.refl _).alloc _).alloc _, h2.lt⟩
set_option maxRecDepth 100000 in
set_option maxHeartbeats 8000000 in
theorem rat_mul {M : Nat → Prop} (N K : Nat) (r s : RE) (x y : Rat) (w : World) (hM : Mb M w) (h : RatX M w N r x) (h' : RatX M w K s y) (hN : 1 ≤ N) (hK : 1 ≤ K) (hL : N + K + 2 ≤ 1099511627776) :
    Calls Tryz.prog 39 #[.agg (reA r), .agg (reA s)] w (RetR M w (x * y)) := by
  have hB0 := ((Blk.of_arr w (reA r) 58 3 rfl).alloc (.cells (reA s) 58)).alloc (.cells zR 58)
  have hB1 := (Blk.of_arr (w.alloc (.cells (reA r) 58)) (reA s) 58 3 rfl).alloc (.cells zR 58)
  have hB2 := Blk.of_arr ((w.alloc (.cells (reA r) 58)).alloc (.cells (reA s) 58)) zR 58 3 rfl
  have hE0 : Ext w (((w.alloc (.cells (reA r) 58)).alloc (.cells (reA s) 58)).alloc (.cells zR 58)) := (((Ext.refl w).alloc _).alloc _).alloc _
  simp only [World.size_alloc] at hB1 hB2
  have hM0 : Mb (Mx M w.heap.size (w.heap.size + 3)) (((w.alloc (.cells (reA r) 58)).alloc (.cells (reA s) 58)).alloc (.cells zR 58)) := Mx.mb hM (by simp; omega) (by simp)
  have h0 := (h.more (M' := Mx M w.heap.size (w.heap.size + 3)) (Mx.more (Nat.le_refl _))).ext hE0
  have h0' := (h'.more (M' := Mx M w.heap.size (w.heap.size + 3)) (Mx.more (Nat.le_refl _))).ext hE0
  generalize hW0 : ((w.alloc (.cells (reA r) 58)).alloc (.cells (reA s) 58)).alloc (.cells zR 58) = W0 at *
  have HW0 := Lib.hid hW0
  have HR0 := Lib.hid hB0.r3
  have HR1 := Lib.hid hB1.r3
  have HB2 := Lib.hid hB2
  have HE0 := Lib.hid hE0
  have HM0 := Lib.hid hM0
  have HI1 := Lib.hid h0'
  have g0 := hB0.lt
  have g1 := hB1.lt
  obtain ⟨c0, c1, c2⟩ := HR0.out
  have CTR := Lib.hid (rat_parts N r x W0 hM0 h0 hN)
  clear h h' hM hW0 hB0 hB1 hB2 hE0 hM0 h0 h0'
  go_enter Tryz.func39, Tryz.ntmps39
  go_upto_region 1 with (fail)
  rw [HW0.out]
  go_wp2_with (fail)
  refine CTR.out.mono ?_
  rintro e w1 ⟨nb, na, nn, np, db, da, dn, dp, z, d, rfl, hz, hd, hd0, hzN, hdN, rfl, he1⟩
  clear CTR c0 c1 c2
  go_upto_region 2 with (fail)
  obtain ⟨G, W1, hG, hW1, hC1, hC2, hE1, hGl⟩ := twoBox (HM0.out.ext he1) ⟨nb, na, nn, np⟩ ⟨db, da, dn, dp⟩
  rw [← hW1, ← hG]
  have HC1 := Lib.hid hC1
  have HC2 := Lib.hid hC2
  have HE1 := Lib.hid (he1.trans hE1)
  have HZ := Lib.hid (hz.ext hE1)
  have HD := Lib.hid (hd.ext hE1)
  have hGn : w.heap.size + 3 ≤ G := by have := he1.size; rw [hG]; have := HB2.out.lt; omega
  obtain ⟨c0, c1, c2⟩ := HR1.out.ext HE1.out
  have g2 := Nat.lt_of_lt_of_le g1 HE1.out.size
  have CTR := Lib.hid (rat_parts K s y W1 (HM0.out.ext HE1.out) (HI1.out.ext HE1.out) hK)
  clear hz hd he1 hW1 hG hC1 hC2 hE1 g0 g1
  go_wp2_with (fail)
  refine CTR.out.mono ?_
  rintro e w2 ⟨mb, ma, mn, mp, fb, fa, fn, fp, m, f, rfl, hm, hf, hf0, hmK, hfK, rfl, he2⟩
  clear CTR c0 c1 c2
  go_upto_region 3 with (fail)
  obtain ⟨J, W2, hJ, hW2, hC3, hC4, hE2, hJl⟩ := twoBox ((HM0.out.ext HE1.out).ext he2) ⟨mb, ma, mn, mp⟩ ⟨fb, fa, fn, fp⟩
  rw [← hW2, ← hJ]
  have hE2d := (he2.trans hE2).drew
  have HE2 := Lib.hid (HE1.out.trans hE2d)
  have HZ2 := Lib.hid (HZ.out.ext hE2d)
  have HD2 := Lib.hid (HD.out.ext hE2d)
  have HM2 := Lib.hid ((hm.ext hE2).ext (Ext.refl _).drew)
  have HF2 := Lib.hid ((hf.ext hE2).ext (Ext.refl _).drew)
  have HMB := Lib.hid (HM0.out.ext HE2.out)
  have HSS : Hid (S44 G (G + 1) J (J + 1) ⟨nb, na, nn, np⟩ ⟨db, da, dn, dp⟩ ⟨mb, ma, mn, mp⟩ ⟨fb, fa, fn, fp⟩ W2.drew) := ⟨HC1.out.ext hE2d, HC2.out.ext hE2d, hC3.ext (Ext.refl _).drew, hC4.ext (Ext.refl _).drew⟩
  have hJn : w.heap.size + 3 ≤ J := by have := HE1.out.size; have := he2.size; omega
  clear HZ HD hm hf he2 hW2 hJ hC3 hC4 hE2 hE2d HC1 HC2 g2
  have hS1 : dlen z.natAbs + dlen m.natAbs ≤ 1099511627776 := by omega
  have hS2 : dlen d + dlen f ≤ 1099511627776 := by omega
  have hS3 : dlen (z * m).natAbs + 1 ≤ 1099511627776 := by have := dlen_mul z.natAbs m.natAbs; rw [Int.natAbs_mul]; omega
  have hS4 : dlen (d * f) + 1 ≤ 1099511627776 := by have := dlen_mul d f; omega
  have hdf : d * f ≠ 0 := Nat.mul_ne_zero hd0 hf0
  refine wp_region_u (S44 G (G + 1) J (J + 1) ⟨nb, na, nn, np⟩ ⟨db, da, dn, dp⟩ ⟨mb, ma, mn, mp⟩ ⟨fb, fa, fn, fp⟩) 7 (by kernel_rfl) HSS.out (fun hHeld => ?_)
  ((refine wpAnyU_take 0 (oi := ?_) (v := ?_) (by kernel_rfl) (by kernel_rfl) (by kernel_rfl) (by kernel_rfl) (by first | exact hSn | exact hHeld) ?_ ?_ ?_ ?_ ?_; rotate_left 2; (simp only [List.getElem?_toArray, List.getElem?_cons_succ, List.getElem?_cons_zero]; rfl); rfl; (intro wS hSw; obtain ⟨⟨S1, S2⟩, ⟨S3, S4⟩, ⟨S5, S6⟩, S7, S8⟩ := hSw; go_simp; try with_reducible rfl); (exact fun _ _ _ h => h); (try simp only [Act.put, List.setIfInBounds_toArray, List.set_cons_zero, List.set_cons_succ])); (refine wpAnyU_take 1 (oi := ?_) (v := ?_) (by kernel_rfl) (by kernel_rfl) (by kernel_rfl) (by kernel_rfl) (by first | exact hSn | exact hHeld) ?_ ?_ ?_ ?_ ?_; rotate_left 2; (simp only [List.getElem?_toArray, List.getElem?_cons_succ, List.getElem?_cons_zero]; rfl); rfl; (intro wS hSw; obtain ⟨⟨S1, S2⟩, ⟨S3, S4⟩, ⟨S5, S6⟩, S7, S8⟩ := hSw; go_simp; try with_reducible rfl); (exact fun _ _ _ h => h); (try simp only [Act.put, List.setIfInBounds_toArray, List.set_cons_zero, List.set_cons_succ])); (refine wpAnyU_take 3 (oi := ?_) (v := ?_) (by kernel_rfl) (by kernel_rfl) (by kernel_rfl) (by kernel_rfl) (by first | exact hSn | exact hHeld) ?_ ?_ ?_ ?_ ?_; rotate_left 2; (simp only [List.getElem?_toArray, List.getElem?_cons_succ, List.getElem?_cons_zero]; rfl); rfl; (intro wS hSw; obtain ⟨⟨S1, S2⟩, ⟨S3, S4⟩, ⟨S5, S6⟩, S7, S8⟩ := hSw; go_simp; try with_reducible rfl); (exact fun _ _ _ h => h); (try simp only [Act.put, List.setIfInBounds_toArray, List.set_cons_zero, List.set_cons_succ])); (refine wpAnyU_take 4 (oi := ?_) (v := ?_) (by kernel_rfl) (by kernel_rfl) (by kernel_rfl) (by kernel_rfl) (by first | exact hSn | exact hHeld) ?_ ?_ ?_ ?_ ?_; rotate_left 2; (simp only [List.getElem?_toArray, List.getElem?_cons_succ, List.getElem?_cons_zero]; rfl); rfl; (intro wS hSw; obtain ⟨⟨S1, S2⟩, ⟨S3, S4⟩, ⟨S5, S6⟩, S7, S8⟩ := hSw; go_simp; try with_reducible rfl); (exact fun _ _ _ h => h); (try simp only [Act.put, List.setIfInBounds_toArray, List.set_cons_zero, List.set_cons_succ])))
  ((refine wpAnyU_one 2 (o := ?_) (by kernel_rfl) ?_ ?_; rotate_left 1; (simp only [List.getElem?_toArray, List.getElem?_cons_succ, List.getElem?_cons_zero]; rfl); intro K hK); go_simp; (refine (int_mul _ _ _ _ z m _ HMB.out HZ2.out HM2.out hS1).mono ?_); rintro e_ wz ⟨u0, u1, rfl, hc, he1⟩; go_wp2_with (fail); (try clear hSn); (have hSn := hHeld.ext he1); (refine hK.out _ _ (fun _ => hSn) ?_); clear hK K; (try simp only [Act.put, List.setIfInBounds_toArray, List.set_cons_zero, List.set_cons_succ]))
  obtain ⟨b5, a5, n5, p5, rfl, rfl⟩ := hc.form
  ((refine wpAnyU_one 5 (o := ?_) (by kernel_rfl) ?_ ?_; rotate_left 1; (simp only [List.getElem?_toArray, List.getElem?_cons_succ, List.getElem?_cons_zero]; rfl); intro K hK); go_simp; (refine (int_mul _ _ _ _ (d : Int) (f : Int) _ (HMB.out.ext he1) (HD2.out.ext he1) (HF2.out.ext he1) (by rw [Int.natAbs_natCast, Int.natAbs_natCast]; exact hS2)).mono ?_); rintro e_ wz ⟨u0, u1, rfl, hc2, he2⟩; go_wp2_with (fail); (try clear hSn); (have hSn := hHeld.ext (he1.trans he2)); (refine hK.out _ _ (fun _ => hSn) ?_); clear hK K; (try simp only [Act.put, List.setIfInBounds_toArray, List.set_cons_zero, List.set_cons_succ]))
  obtain ⟨b6, a6, n6, p6, rfl, rfl⟩ := hc2.form
  ((refine wpAnyU_one 6 (o := ?_) (by kernel_rfl) ?_ ?_; rotate_left 1; (simp only [List.getElem?_toArray, List.getElem?_cons_succ, List.getElem?_cons_zero]; rfl); intro K hK); go_simp; (refine (rat_reduce _ _ _ _ (z * m) _ _ _ _ (d * f) _ (HMB.out.ext (he1.trans he2)) (hc.ext he2).toV (by rw [Int.natCast_mul]; exact hc2.toV) hdf hS3 hS4).mono ?_); rintro e_ wz ⟨u, rfl, hu, he3⟩; go_wp2_with (fail); (try clear hSn); (have hSn := hHeld.ext ((he1.trans he2).trans he3)); (refine hK.out _ _ (fun _ => hSn) ?_); clear hK K; (try simp only [Act.put, List.setIfInBounds_toArray, List.set_cons_zero, List.set_cons_succ]))
  have HEL := Lib.hid ((he1.trans he2).trans he3)
  rw [← Rat.mkRat_mul_mkRat] at hu
  rename_i wz
  obtain ⟨⟨q0, q1, q2, f0, f1, f2⟩, ⟨r0, r1, r2⟩, hkp, hext⟩ := fin3 (M' := Mx M w.heap.size (w.heap.size + 3)) (w := w) (.bool u.b) (.slice u.a u.n u.p) (.slice u.da u.dn u.dp) (HB2.out.ext (HE2.out.trans HEL.out)) (Mx.at (by omega)) (by omega) (HE0.out.trans (HE2.out.trans HEL.out))
  have HF : Hid (RetR M w (mkRat z d * mkRat m f) (.returned (.agg (reA u))) (((wz.setCell ⟨w.heap.size + 1 + 1, 0, none⟩ (.bool u.b)).setCell ⟨w.heap.size + 1 + 1, 1, none⟩ (.slice u.a u.n u.p)).setCell ⟨w.heap.size + 1 + 1, 2, none⟩ (.slice u.da u.dn u.dp))) :=
    ⟨u, rfl, (hu.kp hkp).more Mx.less, hext⟩
  simp only [arr] at q0 q1 q2
  clear hkp hext hu hHeld hSn he1 he2 he3 hc hc2
  ((refine wpAnyU_one 7 (o := ?_) (by kernel_rfl) ?_ ?_; rotate_left 1; (simp only [List.getElem?_toArray, List.getElem?_cons_succ, List.getElem?_cons_zero]; rfl); intro K hK); go_simp; (refine hK.out _ _ (fun h => absurd rfl h) ?_); clear hK K; refine wpAnyU_done (by kernel_rfl) ?_ _)
  go_wp2
  exact bodyPost_ret (v := .agg (reA u)) (by simp [results, Tryz.results39, go_sem, r0, r1, r2]) rfl HF.out
set_option maxRecDepth 100000 in
set_option maxHeartbeats 8000000 in
theorem rat_add {M : Nat → Prop} (N K : Nat) (r s : RE) (x y : Rat) (w : World) (hM : Mb M w) (h : RatX M w N r x) (h' : RatX M w K s y) (hN : 1 ≤ N) (hK : 1 ≤ K) (hL : N + K + 2 ≤ 1099511627776) :
    Calls Tryz.prog 112 #[.agg (reA r), .agg (reA s)] w (RetR M w (x + y)) := by
  have hB0 := ((Blk.of_arr w (reA r) 58 3 rfl).alloc (.cells (reA s) 58)).alloc (.cells zR 58)
  have hB1 := (Blk.of_arr (w.alloc (.cells (reA r) 58)) (reA s) 58 3 rfl).alloc (.cells zR 58)
  have hB2 := Blk.of_arr ((w.alloc (.cells (reA r) 58)).alloc (.cells (reA s) 58)) zR 58 3 rfl
  have hE0 : Ext w (((w.alloc (.cells (reA r) 58)).alloc (.cells (reA s) 58)).alloc (.cells zR 58)) := (((Ext.refl w).alloc _).alloc _).alloc _
  simp only [World.size_alloc] at hB1 hB2
  have hM0 : Mb (Mx M w.heap.size (w.heap.size + 3)) (((w.alloc (.cells (reA r) 58)).alloc (.cells (reA s) 58)).alloc (.cells zR 58)) := Mx.mb hM (by simp; omega) (by simp)
  have h0 := (h.more (M' := Mx M w.heap.size (w.heap.size + 3)) (Mx.more (Nat.le_refl _))).ext hE0
  have h0' := (h'.more (M' := Mx M w.heap.size (w.heap.size + 3)) (Mx.more (Nat.le_refl _))).ext hE0
  generalize hW0 : ((w.alloc (.cells (reA r) 58)).alloc (.cells (reA s) 58)).alloc (.cells zR 58) = W0 at *
  have HW0 := Lib.hid hW0
  have HR0 := Lib.hid hB0.r3
  have HR1 := Lib.hid hB1.r3
  have HB2 := Lib.hid hB2
  have HE0 := Lib.hid hE0
  have HM0 := Lib.hid hM0
  have HI1 := Lib.hid h0'
  have g0 := hB0.lt
  have g1 := hB1.lt
  obtain ⟨c0, c1, c2⟩ := HR0.out
  have CTR := Lib.hid (rat_parts N r x W0 hM0 h0 hN)
  clear h h' hM hW0 hB0 hB1 hB2 hE0 hM0 h0 h0'
  go_enter Tryz.func112, Tryz.ntmps112
  go_upto_region 1 with (fail)
  rw [HW0.out]
  go_wp2_with (fail)
  refine CTR.out.mono ?_
  rintro e w1 ⟨nb, na, nn, np, db, da, dn, dp, z, d, rfl, hz, hd, hd0, hzN, hdN, rfl, he1⟩
  clear CTR c0 c1 c2
  go_upto_region 2 with (fail)
  obtain ⟨G, W1, hG, hW1, hC1, hC2, hE1, hGl⟩ := twoBox (HM0.out.ext he1) ⟨nb, na, nn, np⟩ ⟨db, da, dn, dp⟩
  rw [← hW1, ← hG]
  have HC1 := Lib.hid hC1
  have HC2 := Lib.hid hC2
  have HE1 := Lib.hid (he1.trans hE1)
  have HZ := Lib.hid (hz.ext hE1)
  have HD := Lib.hid (hd.ext hE1)
  have hGn : w.heap.size + 3 ≤ G := by have := he1.size; rw [hG]; have := HB2.out.lt; omega
  obtain ⟨c0, c1, c2⟩ := HR1.out.ext HE1.out
  have g2 := Nat.lt_of_lt_of_le g1 HE1.out.size
  have CTR := Lib.hid (rat_parts K s y W1 (HM0.out.ext HE1.out) (HI1.out.ext HE1.out) hK)
  clear hz hd he1 hW1 hG hC1 hC2 hE1 g0 g1
  go_wp2_with (fail)
  refine CTR.out.mono ?_
  rintro e w2 ⟨mb, ma, mn, mp, fb, fa, fn, fp, m, f, rfl, hm, hf, hf0, hmK, hfK, rfl, he2⟩
  clear CTR c0 c1 c2
  go_upto_region 3 with (fail)
  obtain ⟨J, W2, hJ, hW2, hC3, hC4, hE2, hJl⟩ := twoBox ((HM0.out.ext HE1.out).ext he2) ⟨mb, ma, mn, mp⟩ ⟨fb, fa, fn, fp⟩
  rw [← hW2, ← hJ]
  have hE2d := (he2.trans hE2).drew
  have HE2 := Lib.hid (HE1.out.trans hE2d)
  have HZ2 := Lib.hid (HZ.out.ext hE2d)
  have HD2 := Lib.hid (HD.out.ext hE2d)
  have HM2 := Lib.hid ((hm.ext hE2).ext (Ext.refl _).drew)
  have HF2 := Lib.hid ((hf.ext hE2).ext (Ext.refl _).drew)
  have HMB := Lib.hid (HM0.out.ext HE2.out)
  have HSS : Hid (S44 G (G + 1) J (J + 1) ⟨nb, na, nn, np⟩ ⟨db, da, dn, dp⟩ ⟨mb, ma, mn, mp⟩ ⟨fb, fa, fn, fp⟩ W2.drew) := ⟨HC1.out.ext hE2d, HC2.out.ext hE2d, hC3.ext (Ext.refl _).drew, hC4.ext (Ext.refl _).drew⟩
  have hJn : w.heap.size + 3 ≤ J := by have := HE1.out.size; have := he2.size; omega
  clear HZ HD hm hf he2 hW2 hJ hC3 hC4 hE2 hE2d HC1 HC2 g2
  have hS1 : dlen z.natAbs + dlen f ≤ 1099511627776 := by omega
  have hS2 : dlen m.natAbs + dlen d ≤ 1099511627776 := by omega
  have hS0 : dlen d + dlen f ≤ 1099511627776 := by omega
  have hS5 : dlen ((z * f).natAbs + (m * d).natAbs) ≤ N + K + 1 := by
    have h1 := dlen_mul z.natAbs f
    have h2 := dlen_mul m.natAbs d
    have h3 := dlen_add (z * f).natAbs (m * d).natAbs
    rw [Int.natAbs_mul, Int.natAbs_mul, Int.natAbs_natCast, Int.natAbs_natCast] at h3 ⊢
    omega
  have hS3 : dlen (z * f + m * d).natAbs + 1 ≤ 1099511627776 := by
    have := dlen_mono (Int.natAbs_add_le (z * f) (m * d))
    omega
  have hS4 : dlen (d * f) + 1 ≤ 1099511627776 := by have := dlen_mul d f; omega
  have hdf : d * f ≠ 0 := Nat.mul_ne_zero hd0 hf0
  refine wp_region_u (S44 G (G + 1) J (J + 1) ⟨nb, na, nn, np⟩ ⟨db, da, dn, dp⟩ ⟨mb, ma, mn, mp⟩ ⟨fb, fa, fn, fp⟩) 11 (by kernel_rfl) HSS.out (fun hHeld => ?_)
  ((refine wpAnyU_take 0 (oi := ?_) (v := ?_) (by kernel_rfl) (by kernel_rfl) (by kernel_rfl) (by kernel_rfl) (by first | exact hSn | exact hHeld) ?_ ?_ ?_ ?_ ?_; rotate_left 2; (simp only [List.getElem?_toArray, List.getElem?_cons_succ, List.getElem?_cons_zero]; rfl); rfl; (intro wS hSw; obtain ⟨⟨S1, S2⟩, ⟨S3, S4⟩, ⟨S5, S6⟩, S7, S8⟩ := hSw; go_simp; try with_reducible rfl); (exact fun _ _ _ h => h); (try simp only [Act.put, List.setIfInBounds_toArray, List.set_cons_zero, List.set_cons_succ])); (refine wpAnyU_take 1 (oi := ?_) (v := ?_) (by kernel_rfl) (by kernel_rfl) (by kernel_rfl) (by kernel_rfl) (by first | exact hSn | exact hHeld) ?_ ?_ ?_ ?_ ?_; rotate_left 2; (simp only [List.getElem?_toArray, List.getElem?_cons_succ, List.getElem?_cons_zero]; rfl); rfl; (intro wS hSw; obtain ⟨⟨S1, S2⟩, ⟨S3, S4⟩, ⟨S5, S6⟩, S7, S8⟩ := hSw; go_simp; try with_reducible rfl); (exact fun _ _ _ h => h); (try simp only [Act.put, List.setIfInBounds_toArray, List.set_cons_zero, List.set_cons_succ])); (refine wpAnyU_take 3 (oi := ?_) (v := ?_) (by kernel_rfl) (by kernel_rfl) (by kernel_rfl) (by kernel_rfl) (by first | exact hSn | exact hHeld) ?_ ?_ ?_ ?_ ?_; rotate_left 2; (simp only [List.getElem?_toArray, List.getElem?_cons_succ, List.getElem?_cons_zero]; rfl); rfl; (intro wS hSw; obtain ⟨⟨S1, S2⟩, ⟨S3, S4⟩, ⟨S5, S6⟩, S7, S8⟩ := hSw; go_simp; try with_reducible rfl); (exact fun _ _ _ h => h); (try simp only [Act.put, List.setIfInBounds_toArray, List.set_cons_zero, List.set_cons_succ])); (refine wpAnyU_take 4 (oi := ?_) (v := ?_) (by kernel_rfl) (by kernel_rfl) (by kernel_rfl) (by kernel_rfl) (by first | exact hSn | exact hHeld) ?_ ?_ ?_ ?_ ?_; rotate_left 2; (simp only [List.getElem?_toArray, List.getElem?_cons_succ, List.getElem?_cons_zero]; rfl); rfl; (intro wS hSw; obtain ⟨⟨S1, S2⟩, ⟨S3, S4⟩, ⟨S5, S6⟩, S7, S8⟩ := hSw; go_simp; try with_reducible rfl); (exact fun _ _ _ h => h); (try simp only [Act.put, List.setIfInBounds_toArray, List.set_cons_zero, List.set_cons_succ])); (refine wpAnyU_take 7 (oi := ?_) (v := ?_) (by kernel_rfl) (by kernel_rfl) (by kernel_rfl) (by kernel_rfl) (by first | exact hSn | exact hHeld) ?_ ?_ ?_ ?_ ?_; rotate_left 2; (simp only [List.getElem?_toArray, List.getElem?_cons_succ, List.getElem?_cons_zero]; rfl); rfl; (intro wS hSw; obtain ⟨⟨S1, S2⟩, ⟨S3, S4⟩, ⟨S5, S6⟩, S7, S8⟩ := hSw; go_simp; try with_reducible rfl); (exact fun _ _ _ h => h); (try simp only [Act.put, List.setIfInBounds_toArray, List.set_cons_zero, List.set_cons_succ])); (refine wpAnyU_take 8 (oi := ?_) (v := ?_) (by kernel_rfl) (by kernel_rfl) (by kernel_rfl) (by kernel_rfl) (by first | exact hSn | exact hHeld) ?_ ?_ ?_ ?_ ?_; rotate_left 2; (simp only [List.getElem?_toArray, List.getElem?_cons_succ, List.getElem?_cons_zero]; rfl); rfl; (intro wS hSw; obtain ⟨⟨S1, S2⟩, ⟨S3, S4⟩, ⟨S5, S6⟩, S7, S8⟩ := hSw; go_simp; try with_reducible rfl); (exact fun _ _ _ h => h); (try simp only [Act.put, List.setIfInBounds_toArray, List.set_cons_zero, List.set_cons_succ])))
  ((refine wpAnyU_one 2 (o := ?_) (by kernel_rfl) ?_ ?_; rotate_left 1; (simp only [List.getElem?_toArray, List.getElem?_cons_succ, List.getElem?_cons_zero]; rfl); intro K hK); go_simp; (refine (int_mul _ _ _ _ z (f : Int) _ HMB.out HZ2.out HF2.out (by rw [Int.natAbs_natCast]; exact hS1)).mono ?_); rintro e_ wz ⟨u0, u1, rfl, hc, he1⟩; go_wp2_with (fail); (try clear hSn); (have hSn := hHeld.ext he1); (refine hK.out _ _ (fun _ => hSn) ?_); clear hK K; (try simp only [Act.put, List.setIfInBounds_toArray, List.set_cons_zero, List.set_cons_succ]))
  obtain ⟨b5, a5, n5, p5, rfl, rfl⟩ := hc.form
  ((refine wpAnyU_one 5 (o := ?_) (by kernel_rfl) ?_ ?_; rotate_left 1; (simp only [List.getElem?_toArray, List.getElem?_cons_succ, List.getElem?_cons_zero]; rfl); intro K hK); go_simp; (refine (int_mul _ _ _ _ m (d : Int) _ (HMB.out.ext he1) (HM2.out.ext he1) (HD2.out.ext he1) (by rw [Int.natAbs_natCast]; exact hS2)).mono ?_); rintro e_ wz ⟨u0, u1, rfl, hc2, he2⟩; go_wp2_with (fail); (try clear hSn); (have hSn := hHeld.ext (he1.trans he2)); (refine hK.out _ _ (fun _ => hSn) ?_); clear hK K; (try simp only [Act.put, List.setIfInBounds_toArray, List.set_cons_zero, List.set_cons_succ]))
  obtain ⟨b6, a6, n6, p6, rfl, rfl⟩ := hc2.form
  have he2' := he1.trans he2
  ((refine wpAnyU_one 6 (o := ?_) (by kernel_rfl) ?_ ?_; rotate_left 1; (simp only [List.getElem?_toArray, List.getElem?_cons_succ, List.getElem?_cons_zero]; rfl); intro K hK); go_simp; (refine (int_add _ _ _ _ (z * f) (m * d) _ (HMB.out.ext he2') (hc.ext he2).toV hc2.toV (by omega)).mono ?_); rintro e_ wz ⟨u0, u1, rfl, hc3, he3⟩; go_wp2_with (fail); (try clear hSn); (have hSn := hHeld.ext (he2'.trans he3)); (refine hK.out _ _ (fun _ => hSn) ?_); clear hK K; (try simp only [Act.put, List.setIfInBounds_toArray, List.set_cons_zero, List.set_cons_succ]))
  obtain ⟨b7, a7, n7, p7, rfl, rfl⟩ := hc3.form
  have he3' := he2'.trans he3
  ((refine wpAnyU_one 9 (o := ?_) (by kernel_rfl) ?_ ?_; rotate_left 1; (simp only [List.getElem?_toArray, List.getElem?_cons_succ, List.getElem?_cons_zero]; rfl); intro K hK); go_simp; (refine (int_mul _ _ _ _ (d : Int) (f : Int) _ (HMB.out.ext he3') (HD2.out.ext he3') (HF2.out.ext he3') (by rw [Int.natAbs_natCast, Int.natAbs_natCast]; exact hS0)).mono ?_); rintro e_ wz ⟨u0, u1, rfl, hc4, he4⟩; go_wp2_with (fail); (try clear hSn); (have hSn := hHeld.ext (he3'.trans he4)); (refine hK.out _ _ (fun _ => hSn) ?_); clear hK K; (try simp only [Act.put, List.setIfInBounds_toArray, List.set_cons_zero, List.set_cons_succ]))
  obtain ⟨b8, a8, n8, p8, rfl, rfl⟩ := hc4.form
  have he4' := he3'.trans he4
  ((refine wpAnyU_one 10 (o := ?_) (by kernel_rfl) ?_ ?_; rotate_left 1; (simp only [List.getElem?_toArray, List.getElem?_cons_succ, List.getElem?_cons_zero]; rfl); intro K hK); go_simp; (refine (rat_reduce _ _ _ _ (z * f + m * d) _ _ _ _ (d * f) _ (HMB.out.ext he4') (hc3.ext he4).toV (by rw [Int.natCast_mul]; exact hc4.toV) hdf hS3 hS4).mono ?_); rintro e_ wz ⟨u, rfl, hu, he5⟩; go_wp2_with (fail); (try clear hSn); (have hSn := hHeld.ext (he4'.trans he5)); (refine hK.out _ _ (fun _ => hSn) ?_); clear hK K; (try simp only [Act.put, List.setIfInBounds_toArray, List.set_cons_zero, List.set_cons_succ]))
  have HEL := Lib.hid (he4'.trans he5)
  rw [← Rat.mkRat_add_mkRat _ _ hd0 hf0] at hu
  rename_i wz
  obtain ⟨⟨q0, q1, q2, f0, f1, f2⟩, ⟨r0, r1, r2⟩, hkp, hext⟩ := fin3 (M' := Mx M w.heap.size (w.heap.size + 3)) (w := w) (.bool u.b) (.slice u.a u.n u.p) (.slice u.da u.dn u.dp) (HB2.out.ext (HE2.out.trans HEL.out)) (Mx.at (by omega)) (by omega) (HE0.out.trans (HE2.out.trans HEL.out))
  have HF : Hid (RetR M w (mkRat z d + mkRat m f) (.returned (.agg (reA u))) (((wz.setCell ⟨w.heap.size + 1 + 1, 0, none⟩ (.bool u.b)).setCell ⟨w.heap.size + 1 + 1, 1, none⟩ (.slice u.a u.n u.p)).setCell ⟨w.heap.size + 1 + 1, 2, none⟩ (.slice u.da u.dn u.dp))) :=
    ⟨u, rfl, (hu.kp hkp).more Mx.less, hext⟩
  simp only [arr] at q0 q1 q2
  clear hkp hext hu hHeld hSn he1 he2 he3 he4 he5 he2' he3' he4' hc hc2 hc3 hc4
  ((refine wpAnyU_one 11 (o := ?_) (by kernel_rfl) ?_ ?_; rotate_left 1; (simp only [List.getElem?_toArray, List.getElem?_cons_succ, List.getElem?_cons_zero]; rfl); intro K hK); go_simp; (refine hK.out _ _ (fun h => absurd rfl h) ?_); clear hK K; refine wpAnyU_done (by kernel_rfl) ?_ _)
  go_wp2
  exact bodyPost_ret (v := .agg (reA u)) (by simp [results, Tryz.results112, go_sem, r0, r1, r2]) rfl HF.out
end Go.Proofs.YtiopnmlohpmmiaaGreat

namespace Go.Proofs.YtiopnmlohpmmiaaGreat
open Go.RowKit

/-- the cells of a rational in a row -/
def R3o (w : World) (b o : Nat) (r : RE) : Prop := w.cell? ⟨b, o, none⟩ = some (.bool r.b) ∧ w.cell? ⟨b, o + 1, none⟩ = some (.slice r.a r.n r.p) ∧ w.cell? ⟨b, o + 2, none⟩ = some (.slice r.da r.dn r.dp)
theorem R3o.ext {w w' : World} {b o : Nat} {r : RE} (h : R3o w b o r) (he : Ext w w') : R3o w' b o r := by
  have hb := World.block_lt_of_cell? _ _ h.1
  unfold R3o; rw [he.cell hb, he.cell hb, he.cell hb]; exact h
/-- a row of n rationals, with at most A digits -/
def RatRow (M : Nat → Prop) (w : World) (A : Nat) (a : Option Addr) (n cap : Nat) (X : Nat → RE) (q : Nat → Rat) : Prop :=
  n ≤ 1099511627776 ∧ ∀ i, i < n → (∃ b off, a = some ⟨b, off, none⟩ ∧ n ≤ cap ∧ cap ≤ maxLen ∧ b < w.heap.size ∧ ¬ M b ∧ R3o w b (off + i * 3) (X i)) ∧ RatX M w A (X i) (q i)
section
variable {M M' : Nat → Prop} {w w' : World} {A n cap : Nat} {a : Option Addr} {X : Nat → RE} {q : Nat → Rat}
theorem RatRow.ext (h : RatRow M w A a n cap X q) (he : Ext w w') : RatRow M w' A a n cap X q := by
  refine ⟨h.1, fun i hi => ?_⟩
  obtain ⟨⟨b, off, h1, h2, h3, h4, h5, h6⟩, h7⟩ := h.2 i hi
  exact ⟨⟨b, off, h1, h2, h3, Nat.lt_of_lt_of_le h4 he.size, h5, h6.ext he⟩, h7.ext he⟩
theorem RatRow.more (h : RatRow M w A a n cap X q) (hm : ∀ g, M' g → M g ∨ w.heap.size ≤ g) : RatRow M' w A a n cap X q := by
  refine ⟨h.1, fun i hi => ?_⟩
  obtain ⟨⟨b, off, h1, h2, h3, h4, h5, h6⟩, h7⟩ := h.2 i hi
  exact ⟨⟨b, off, h1, h2, h3, h4, fun k => (hm b k).elim h5 (by omega), h6⟩, h7.more hm⟩
end
/-- missing values are 0 -/
def aq (q : Nat → Rat) (n : Nat) : Nat → Rat := fun k => if k < n then q k else 0
theorem RatRow.rb {M : Nat → Prop} {w : World} {A n cap : Nat} {a : Option Addr} {X : Nat → RE} {q : Nat → Rat} (h : RatRow M w A a n cap X q) (hA : 1 ≤ A) (k : Nat) : Go.Proofs.YtiopnmlohpmmiaaGreat.rb A (aq q n k) := by
  unfold aq
  split
  · rename_i hk; exact (h.2 k hk).2.rb hA
  · exact rb_zero.mono hA
def EvCtr (A d : Nat) : Prop := ∀ (M : Nat → Prop) (t : RT d) (x : PE) (a : Option Addr) (n cap : Nat) (X : Nat → RE) (q : Nat → Rat) (w : World), Mb M w → RR M w d t (.int .i64 x.lv) (.bool x.b) (.slice x.a x.n x.p) (.slice x.ka x.kn x.kp) →
  RatRow M w A a n cap X q → 2 * szE A d t + A + 4 ≤ 1099511627776 → Calls Tryz.prog 41 #[.agg (peA x), .slice a n cap] w (RetR M w (evT (aq q n) (terms d t)))
/-- the boxes of Eval -/
theorem evBox {M : Nat → Prop} {w : World} (hM : Mb M w) (x : PE) : ∃ W, W = (w.alloc (.cells (peA x) 28)).alloc (.cells zR 58) ∧ Ext w W ∧ P4 W w.heap.size x ∧ Blk W (w.heap.size + 1) 58 3 (arr zR) ∧ Mb (Mx M w.heap.size (w.heap.size + 2)) W := by
  have h1 := Blk.of_arr (w.alloc (.cells (peA x) 28)) zR 58 3 rfl
  simp only [World.size_alloc] at h1
  exact ⟨_, rfl, ((Ext.refl w).alloc _).alloc _, ((Blk.of_arr w (peA x) 28 4 rfl).alloc _).p4, h1, Mx.mb hM (by simp; omega) (by simp)⟩
/-- a rational is stored as the result -/
theorem finR {M M' : Nat → Prop} {w W : World} {g : Nat} {t : TypeId} {r : RE} {q : Rat} (hB : Blk W g t 3 (arr zR)) (hg : M' g) (hw : w.heap.size ≤ g) (he : Ext w W) (hr : RatC M' W r q) (hm : ∀ g, M g → M' g) :
    (W.cell? ⟨g, 0, none⟩ = some (.bool false) ∧ W.cell? ⟨g, 1, none⟩ = some (.slice none 0 0) ∧ W.cell? ⟨g, 2, none⟩ = some (.slice none 0 0) ∧ W.frozen? ⟨g, 0, none⟩ = false ∧ W.frozen? ⟨g, 1, none⟩ = false ∧ W.frozen? ⟨g, 2, none⟩ = false) ∧
    ((((W.setCell ⟨g, 0, none⟩ (.bool r.b)).setCell ⟨g, 1, none⟩ (.slice r.a r.n r.p)).setCell ⟨g, 2, none⟩ (.slice r.da r.dn r.dp)).cell? ⟨g, 0, none⟩ = some (.bool r.b) ∧ (((W.setCell ⟨g, 0, none⟩ (.bool r.b)).setCell ⟨g, 1, none⟩ (.slice r.a r.n r.p)).setCell ⟨g, 2, none⟩ (.slice r.da r.dn r.dp)).cell? ⟨g, 1, none⟩ = some (.slice r.a r.n r.p) ∧ (((W.setCell ⟨g, 0, none⟩ (.bool r.b)).setCell ⟨g, 1, none⟩ (.slice r.a r.n r.p)).setCell ⟨g, 2, none⟩ (.slice r.da r.dn r.dp)).cell? ⟨g, 2, none⟩ = some (.slice r.da r.dn r.dp)) ∧
    Hid (RetR M w q (.returned (.agg (reA r))) (((W.setCell ⟨g, 0, none⟩ (.bool r.b)).setCell ⟨g, 1, none⟩ (.slice r.a r.n r.p)).setCell ⟨g, 2, none⟩ (.slice r.da r.dn r.dp))) := by
  obtain ⟨h1, h2, h3, h4⟩ := fin3 (w := w) (.bool r.b) (.slice r.a r.n r.p) (.slice r.da r.dn r.dp) hB hg hw he
  exact ⟨h1, h2, ⟨r, rfl, (hr.kp h3).more (fun g hg => .inl (hm g hg)), h4⟩⟩
set_option maxRecDepth 100000 in
set_option maxHeartbeats 4000000 in
theorem eval_leaf (A d : Nat) (M : Nat → Prop) (t : RT (d + 1)) (x : PE) (a : Option Addr) (n cap : Nat) (q : Nat → Rat) (w : World) (hM : Mb M w) (h : RR M w (d + 1) t (.int .i64 x.lv) (.bool x.b) (.slice x.a x.n x.p) (.slice x.ka x.kn x.kp)) (hl : t.1 ≤ 0) :
    Calls Tryz.prog 41 #[.agg (peA x), .slice a n cap] w (RetR M w (evT (aq q n) (terms (d + 1) t))) := by
  obtain ⟨W, hW, hE, ⟨c0, c1, c2, c3⟩, hB, hM2⟩ := evBox hM x
  obtain ⟨h0, _, hI, _⟩ := h
  simp only [Value.int.injEq, true_and] at h0
  have hlv : x.lv ≤ 0 := by omega
  have hI2 := (hI.toV.more (M' := Mx M w.heap.size (w.heap.size + 2)) (Mx.more (Nat.le_refl _))).ext hE
  have CTR := Lib.hid (rat_from x.b x.a x.n x.p t.2.1.val W hM2 hI2)
  have HT : Hid (evT (aq q n) (terms (d + 1) t) = (t.2.1.val : Rat)) := by show _ = _; rw [terms_const hl, evT_single]
  have HW := Lib.hid hW
  have HE := Lib.hid hE
  have HB := Lib.hid hB
  have g0 := World.block_lt_of_cell? _ _ c0
  have g1 := hB.lt
  simp only at g0
  clear hI hI2 hW hE hB hM2 hM h0 hl
  go_enter Tryz.func41, Tryz.ntmps41
  go_upto_region 1 with (fail)
  rw [← HW.out]
  go_wp2_with (fail)
  refine CTR.out.mono ?_
  rintro e w1 ⟨r, rfl, hr, he1⟩
  obtain ⟨⟨q0, q1, q2, f0, f1, f2⟩, ⟨r0, r1, r2⟩, HF⟩ := finR (M := M) (w := w) (HB.out.ext he1) (Mx.at (by omega)) (by omega) (HE.out.trans he1) hr Mx.sub
  rw [← HT.out] at HF
  clear CTR hr he1 c0 c1 c2 c3 g0 g1
  go_wp2
  exact bodyPost_ret (v := .agg (reA r)) (by simp [results, Tryz.results41, go_sem, r0, r1, r2]) rfl HF.out
set_option maxRecDepth 100000 in
set_option maxHeartbeats 4000000 in
theorem eval_high (A d : Nat) (M : Nat → Prop) (t : RT (d + 1)) (x : PE) (a : Option Addr) (n cap : Nat) (q : Nat → Rat) (w : World) (hM : Mb M w) (h : RR M w (d + 1) t (.int .i64 x.lv) (.bool x.b) (.slice x.a x.n x.p) (.slice x.ka x.kn x.kp)) (hl : 4 < t.1) :
    Calls Tryz.prog 41 #[.agg (peA x), .slice a n cap] w (RetR M w (evT (aq q n) (terms (d + 1) t))) := by
  obtain ⟨W, hW, hE, ⟨c0, c1, c2, c3⟩, hB, hM2⟩ := evBox hM x
  obtain ⟨h0, _, hI, _⟩ := h
  simp only [Value.int.injEq, true_and] at h0
  have hlv : ¬ x.lv ≤ 0 := by omega
  have hlv4 : 4 < x.lv := by omega
  have CTR := Lib.hid (rat_of 0 W hM2 (by omega) (by omega))
  have HT : Hid (evT (aq q n) (terms (d + 1) t) = ((0 : Int) : Rat)) := by
    show _ = _
    unfold terms
    rw [if_neg (by omega), if_pos hl]; rfl
  have HW := Lib.hid hW
  have HE := Lib.hid hE
  have HB := Lib.hid hB
  have g0 := World.block_lt_of_cell? _ _ c0
  have g1 := hB.lt
  simp only at g0
  clear hI hW hE hB hM2 hM h0 hl
  go_enter Tryz.func41, Tryz.ntmps41
  go_upto_region 1 with (fail)
  rw [← HW.out]
  go_wp2_with (fail)
  refine CTR.out.mono ?_
  rintro e w1 ⟨r, rfl, hr, he1⟩
  obtain ⟨⟨q0, q1, q2, f0, f1, f2⟩, ⟨r0, r1, r2⟩, HF⟩ := finR (M := M) (w := w) (HB.out.ext he1) (Mx.at (by omega)) (by omega) (HE.out.trans he1) hr Mx.sub
  rw [← HT.out] at HF
  clear CTR hr he1 c0 c1 c2 c3 g0 g1
  go_wp2
  exact bodyPost_ret (v := .agg (reA r)) (by simp [results, Tryz.results41, go_sem, r0, r1, r2]) rfl HF.out
theorem kid_pe {M : Nat → Prop} {w : World} {d : Nat} {t : RT (d + 1)} {x : PE} (h : RR M w (d + 1) t (.int .i64 x.lv) (.bool x.b) (.slice x.a x.n x.p) (.slice x.ka x.kn x.kp)) (i : Nat) (hi : i < t.2.2.1) :
    ∃ (b off : Nat) (y : PE), x.ka = some ⟨b, off, none⟩ ∧ x.kn ≤ x.kp ∧ x.kp ≤ maxLen ∧ b < w.heap.size ∧ (w.cell? ⟨b, off + i * 4, none⟩ = some (.int .i64 y.lv) ∧ w.cell? ⟨b, off + i * 4 + 1, none⟩ = some (.bool y.b) ∧ w.cell? ⟨b, off + i * 4 + 2, none⟩ = some (.slice y.a y.n y.p) ∧ w.cell? ⟨b, off + i * 4 + 3, none⟩ = some (.slice y.ka y.kn y.kp)) ∧
      RR M w d (t.2.2.2 i) (.int .i64 y.lv) (.bool y.b) (.slice y.a y.n y.p) (.slice y.ka y.kn y.kp) := by
  have hf := h.form
  obtain ⟨_, _, _, ka, kp, hk⟩ := hf
  simp only [Value.slice.injEq] at hk
  obtain ⟨e1, e2, e3⟩ := hk
  rw [e2] at h
  obtain ⟨b, off, h1, h2, h3, h4, e0', e1', e2', e3', x0, x1, x2, x3, x4⟩ := h.kids i hi
  obtain ⟨y, rfl, rfl, rfl, rfl⟩ := x4.pe
  exact ⟨b, off, y, h1, by rw [e2]; exact h2, h3, h4, ⟨x0, x1, x2, x3⟩, x4⟩
set_option maxRecDepth 100000 in
set_option maxHeartbeats 4000000 in
theorem eval_miss (A d : Nat) (ih : EvCtr A d) (M : Nat → Prop) (t : RT (d + 1)) (x : PE) (a : Option Addr) (n cap : Nat) (X : Nat → RE) (q : Nat → Rat) (w : World) (hM : Mb M w) (h : RR M w (d + 1) t (.int .i64 x.lv) (.bool x.b) (.slice x.a x.n x.p) (.slice x.ka x.kn x.kp)) (hq : RatRow M w A a n cap X q) (hsz : 2 * szE A (d + 1) t + A + 4 ≤ 1099511627776) (hl : 1 ≤ t.1 ∧ t.1 ≤ 4) (hn : n < t.1) :
    Calls Tryz.prog 41 #[.agg (peA x), .slice a n cap] w (RetR M w (evT (aq q n) (terms (d + 1) t))) := by
  obtain ⟨W, hW, hE, ⟨c0, c1, c2, c3⟩, hB, hM2⟩ := evBox hM x
  have h0 := h.1
  simp only [Value.int.injEq, true_and] at h0
  have hlv : ¬ x.lv ≤ 0 := by omega
  have hlv4 : ¬ 4 < x.lv := by omega
  have hlvn : (n : Int) < x.lv := by omega
  have hkn : x.kn = t.2.2.1 := by
    obtain ⟨_, _, _, ka, kp, hk⟩ := h.form
    simp only [Value.slice.injEq] at hk
    exact hk.2.1
  have hT : evT (aq q n) (terms (d + 1) t) = ps 0 (fun i => evT (aq q n) (terms d (t.2.2.2 i))) t.2.2.1 := by
    rw [evT_node _ hl.1 hl.2]
    congr 1
    unfold aq; rw [if_neg (by omega)]
  have HW := Lib.hid hW
  have HE := Lib.hid hE
  have HB := Lib.hid hB
  have g0 := World.block_lt_of_cell? _ _ c0
  have g1 := hB.lt
  simp only at g0
  by_cases hk0 : x.kn = 0
  · have CTR := Lib.hid (rat_of 0 W hM2 (by omega) (by omega))
    have HT : Hid (evT (aq q n) (terms (d + 1) t) = ((0 : Int) : Rat)) := by
      show _ = _
      rw [hT, ← hkn, hk0]; rfl
    have hkb : ((x.kn : Int) == 0) = true := by simp [hk0]
    clear hW hE hB hM2 hM h0 hl h hsz hq hn hT hkn hk0
    go_enter Tryz.func41, Tryz.ntmps41
    go_upto_region 1 with (fail)
    rw [← HW.out]
    go_wp2_with (fail)
    refine CTR.out.mono ?_
    rintro e w1 ⟨r, rfl, hr, he1⟩
    obtain ⟨⟨q0, q1, q2, f0, f1, f2⟩, ⟨r0, r1, r2⟩, HF⟩ := finR (M := M) (w := w) (HB.out.ext he1) (Mx.at (by omega)) (by omega) (HE.out.trans he1) hr Mx.sub
    rw [← HT.out] at HF
    clear CTR hr he1 c0 c1 c2 c3 g0 g1
    go_wp2
    exact bodyPost_ret (v := .agg (reA r)) (by simp [results, Tryz.results41, go_sem, r0, r1, r2]) rfl HF.out
  · have hkb : ((x.kn : Int) == 0) = false := by simp; omega
    have h2 := RR.ext (RR.more (M' := Mx M w.heap.size (w.heap.size + 2)) (Mx.more (Nat.le_refl _)) h) hE
    obtain ⟨b, off, y, hka, hkp, hkm, hb, ⟨e0, e1, e2, e3⟩, hy⟩ := kid_pe h2 0 (by omega)
    rw [hka] at c3
    have hsz2 : szE A (d + 1) t = 1 + nsum (fun i => szE A d (t.2.2.2 i) + A + 1) t.2.2.1 := by
      conv => lhs; unfold szE
      rw [if_neg (by omega), if_neg (by omega)]
    have hsz3 : szE A d (t.2.2.2 0) + A + 1 ≤ nsum (fun i => szE A d (t.2.2.2 i) + A + 1) t.2.2.1 := nsum_at (fun i => szE A d (t.2.2.2 i) + A + 1) (show 0 < t.2.2.1 by omega)
    have CTR := Lib.hid (ih _ (t.2.2.2 0) y a n cap X q W hM2 hy ((hq.more (Mx.more (Nat.le_refl _))).ext hE) (by omega))
    have HT : Hid (evT (aq q n) (terms (d + 1) t) = evT (aq q n) (terms d (t.2.2.2 0))) := by
      show _ = _
      obtain ⟨k, hk⟩ : ∃ k, t.2.2.1 = k + 1 := ⟨t.2.2.1 - 1, by omega⟩
      rw [hT, hk, ps_zero]
    have hkp0 : 0 < x.kn := by omega
    unfold maxLen at hkm
    rw [Nat.zero_mul, Nat.add_zero] at e0 e1 e2 e3
    clear hW hE hB hM2 hM h0 hl h h2 hy hsz hsz2 hsz3 hq hn hT hkn hk0
    go_enter Tryz.func41, Tryz.ntmps41
    go_upto_region 1 with (fail)
    rw [← HW.out]
    go_wp2_with (fail)
    refine CTR.out.mono ?_
    rintro e w1 ⟨r, rfl, hr, he1⟩
    obtain ⟨⟨q0, q1, q2, f0, f1, f2⟩, ⟨r0, r1, r2⟩, HF⟩ := finR (M := M) (w := w) (HB.out.ext he1) (Mx.at (by omega)) (by omega) (HE.out.trans he1) hr Mx.sub
    rw [← HT.out] at HF
    clear CTR hr he1 c0 c1 c2 c3 g0 g1 e0 e1 e2 e3
    go_wp2
    exact bodyPost_ret (v := .agg (reA r)) (by simp [results, Tryz.results41, go_sem, r0, r1, r2]) rfl HF.out
theorem Blk.set3 {w : World} {g : Nat} {t : TypeId} {f : Nat → Value} (h : Blk w g t 3 f) (A B C : Value) : Blk (((w.setCell ⟨g, 0, none⟩ A).setCell ⟨g, 1, none⟩ B).setCell ⟨g, 2, none⟩ C) g t 3 (arr #[A, B, C]) :=
  (((h.set 0 A).set 1 B).set 2 C).congr fun i hi => by
    have : i = 0 ∨ i = 1 ∨ i = 2 := by omega
    rcases this with rfl | rfl | rfl <;> rfl
/-- what a round of Eval reads -/
structure SEv (G P : Nat) (s : RE) (Lm : Nat) (kb koff kn kp : Nat) (ab ao : Nat) (r : RE) (ko : Nat) (y : PE) (w : World) : Prop where
  sum : R3 G s w
  lv : w.cell? ⟨P, 0, none⟩ = some (.int .i64 ((Lm : Int) + 1))
  cf : w.cell? ⟨P, 3, none⟩ = some (.slice (some ⟨kb, koff, none⟩) kn kp)
  at' : R3o w ab ao r
  k0 : w.cell? ⟨kb, ko, none⟩ = some (.int .i64 y.lv)
  k1 : w.cell? ⟨kb, ko + 1, none⟩ = some (.bool y.b)
  k2 : w.cell? ⟨kb, ko + 2, none⟩ = some (.slice y.a y.n y.p)
  k3 : w.cell? ⟨kb, ko + 3, none⟩ = some (.slice y.ka y.kn y.kp)
theorem SEv.ext {G P : Nat} {s : RE} {Lm : Nat} {kb koff kn kp : Nat} {ab ao : Nat} {r : RE} {ko : Nat} {y : PE} {w w' : World} (h : SEv G P s Lm kb koff kn kp ab ao r ko y w) (he : Ext w w') : SEv G P s Lm kb koff kn kp ab ao r ko y w' := by
  obtain ⟨h1, h2, h3, h4, h5, h6, h7, h8⟩ := h
  have b2 := World.block_lt_of_cell? _ _ h2
  have b5 := World.block_lt_of_cell? _ _ h5
  exact ⟨h1.ext he, by rw [he.cell b2]; exact h2, by rw [he.cell b2]; exact h3, h4.ext he, by rw [he.cell b5]; exact h5, by rw [he.cell b5]; exact h6, by rw [he.cell b5]; exact h7, by rw [he.cell b5]; exact h8⟩
set_option maxRecDepth 100000 in
set_option maxHeartbeats 16000000 in
theorem eval_loop (A d : Nat) (hA : 1 ≤ A) (ih : EvCtr A d) (M : Nat → Prop) (t : RT (d + 1)) (x : PE) (a : Option Addr) (n cap : Nat) (X : Nat → RE) (q : Nat → Rat) (w : World) (hM : Mb M w) (h : RR M w (d + 1) t (.int .i64 x.lv) (.bool x.b) (.slice x.a x.n x.p) (.slice x.ka x.kn x.kp)) (hq : RatRow M w A a n cap X q) (hsz : 2 * szE A (d + 1) t + A + 4 ≤ 1099511627776) (hl : 1 ≤ t.1 ∧ t.1 ≤ 4) (hn : t.1 ≤ n) :
    Calls Tryz.prog 41 #[.agg (peA x), .slice a n cap] w (RetR M w (evT (aq q n) (terms (d + 1) t))) := by
  obtain ⟨W, hW, hE, ⟨c0, c1, c2, c3⟩, hB, hM2⟩ := evBox hM x
  have h0 := h.1
  simp only [Value.int.injEq, true_and] at h0
  obtain ⟨Lm, hLm⟩ : ∃ Lm : Nat, x.lv = (Lm : Int) + 1 := ⟨(x.lv - 1).toNat, by omega⟩
  have hlv : ¬ ((Lm : Int) + 1) ≤ 0 := by omega
  have hlv4 : ¬ 4 < ((Lm : Int) + 1) := by omega
  have hlvn : ¬ (n : Int) < ((Lm : Int) + 1) := by omega
  have hLn : Lm < n := by omega
  rw [hLm] at c0
  have hkn : x.kn = t.2.2.1 := by
    obtain ⟨_, _, _, ka, kp, hk⟩ := h.form
    simp only [Value.slice.injEq] at hk
    exact hk.2.1
  have hT : evT (aq q n) (terms (d + 1) t) = hv (q Lm) (fun i => evT (aq q n) (terms d (t.2.2.2 i))) t.2.2.1 t.2.2.1 := by
    rw [hv_all, evT_node _ hl.1 hl.2]
    congr 1
    rw [show t.1.toNat - 1 = Lm by omega]
    unfold aq; rw [if_pos hLn]
  have hsz2 : szE A (d + 1) t = 1 + nsum (fun i => szE A d (t.2.2.2 i) + A + 1) t.2.2.1 := by
    conv => lhs; unfold szE
    rw [if_neg (by omega), if_neg (by omega)]
  have hrbA : ∀ k, rb A (aq q n k) := hq.rb hA
  obtain ⟨⟨ab, aoff, rfl, _⟩, _⟩ := hq.2 Lm hLn
  have hrbq : rb A (q Lm) := by have := hrbA Lm; unfold aq at this; rw [if_pos hLn] at this; exact this
  have HRB : Hid (∀ j, j ≤ t.2.2.1 → rb (1 + nsum (fun i => szE A d (t.2.2.2 i) + A + 1) t.2.2.1 - nsum (fun i => szE A d (t.2.2.2 i) + A + 1) (t.2.2.1 - j)) (hv (q Lm) (fun i => evT (aq q n) (terms d (t.2.2.2 i))) t.2.2.1 j)) :=
    rb_hv hrbq _ (fun i => szE A d (t.2.2.2 i)) _ fun i _ => rb_evT (fun k _ => hrbA k) d _
  have HRK : Hid (∀ i, rb (szE A d (t.2.2.2 i)) (evT (aq q n) (terms d (t.2.2.2 i)))) := fun i => rb_evT (fun k _ => hrbA k) d _
  have HW := Lib.hid hW
  have HE := Lib.hid hE
  have HB := Lib.hid hB
  have HM := Lib.hid hM2
  have HTT := Lib.hid hT
  have HRR := Lib.hid (RR.ext (RR.more (M' := Mx M w.heap.size (w.heap.size + 2)) (Mx.more (Nat.le_refl _)) h) hE)
  have HQ := Lib.hid ((hq.more (M' := Mx M w.heap.size (w.heap.size + 2)) (Mx.more (Nat.le_refl _))).ext hE)
  have HP0 : Hid (W.cell? ⟨w.heap.size, 0, none⟩ = some (.int .i64 ((Lm : Int) + 1)) ∧ W.cell? ⟨w.heap.size, 3, none⟩ = some (.slice x.ka x.kn x.kp)) := ⟨c0, c3⟩
  have HSZ := Lib.hid hsz
  have HSZ2 := Lib.hid hsz2
  have hknL : x.kn ≤ 1099511627776 := by rw [hkn]; exact h.2.2.2.1
  have HKN := Lib.hid hkn
  have CTR := Lib.hid (rat_of 0 W hM2 (by omega) (by omega))
  have g0 := World.block_lt_of_cell? _ _ c0
  have g1 := hB.lt
  simp only at g0
  clear hW hE hB hM2 hM h0 hl h hsz hsz2 hq hn hT hkn hLm hrbA hrbq
  go_enter Tryz.func41, Tryz.ntmps41
  go_upto_region 1 with (fail)
  rw [← HW.out]
  go_wp2_with (fail)
  refine CTR.out.mono ?_
  rintro e w1 ⟨s0, rfl, hs0, he1⟩
  clear CTR c0 c1 c2 c3
  go_upto_region 10 with (fail)
  have hEa : Ext w1 (w1.alloc (.cells (reA s0) 58)) := (Ext.refl _).alloc _
  have hBa := Blk.of_arr w1 (reA s0) 58 3 rfl
  have hs1 := (hs0.more (M' := fun g => Mx M w.heap.size (w.heap.size + 2) g ∨ g = w1.heap.size) (fun g hg => hg.imp id (fun e => by omega))).ext hEa
  have hGg : w.heap.size + 1 < w1.heap.size := Nat.lt_of_lt_of_le g1 he1.size
  obtain ⟨G, hG⟩ : ∃ G, G = w1.heap.size := ⟨_, rfl⟩
  rw [← hG] at hBa hs1 hGg
  rw [← hG]
  obtain ⟨W2, hW2⟩ : ∃ W2, W2 = w1.alloc (.cells (reA s0) 58) := ⟨_, rfl⟩
  rw [← hW2] at hBa hs1 hEa
  rw [← hW2]
  have HMG : Hid (Mb (fun g => Mx M w.heap.size (w.heap.size + 2) g ∨ g = G) W2) := fun g hg => hg.elim (fun h1 => (HM.out.ext (he1.trans hEa)) g h1) (fun h1 => by have := hBa.lt; omega)
  have HE1 := Lib.hid he1
  have HBs := Lib.hid hBa
  have HS1 := Lib.hid hs1
  have HEX : Hid (Ext w1 W2) := hEa
  have HGW := Lib.hid hG
  have hGW : W.heap.size ≤ G := by rw [hG]; exact he1.size
  replace HQ := Lib.hid (HQ.out.more (M' := fun g => Mx M w.heap.size (w.heap.size + 2) g ∨ g = G) (fun g hg => hg.imp id (fun e => by omega)))
  replace HRR := Lib.hid (RR.more (M' := fun g => Mx M w.heap.size (w.heap.size + 2) g ∨ g = G) (fun g hg => hg.imp id (fun e => by omega)) HRR.out)
  obtain ⟨d0, d3⟩ := HP0.out
  rw [← (he1.trans hEa).cell g0] at d0 d3
  have g2 := Nat.lt_of_lt_of_le g0 (he1.trans hEa).size
  clear hG hW2 hEa hs1 hBa hs0 he1
  go_wp2
  go_loopw [6] (fun i wr => ∃ (m : Nat) (s : RE), m ≤ x.kn ∧ i = .int .i64 ((m : Int) - 1) ∧ Hid (Blk wr G 58 3 (arr (reA s))) ∧ Hid (RatC (fun g => Mx M w.heap.size (w.heap.size + 2) g ∨ g = G) wr s (hv (q Lm) (fun i => evT (aq q n) (terms d (t.2.2.2 i))) x.kn (x.kn - m))) ∧ Hid (Ext w1 wr)) (fun i _ => (intOf i + 1).toNat)
  case atStart => exact ⟨x.kn, s0, Nat.le_refl _, rfl, HBs, (by show RatC _ _ _ _; rw [Nat.sub_self]; exact HS1.out), HEX⟩
  case round =>
    clear HBs HS1 d0 d3 g2
    obtain ⟨m, s, hm, rfl, HBs, HS, HEX2⟩ := hrel
    have hEW := HE1.out.trans HEX2.out
    by_cases hm0 : m = 0
    · subst hm0
      have hr := HBs.out.r3
      obtain ⟨s0', s1', s2'⟩ := hr
      have gl := HBs.out.lt
      obtain ⟨⟨q0, q1, q2, f0, f1, f2⟩, ⟨r0, r1, r2⟩, HF⟩ := finR (M := M) (M' := fun g => Mx M w.heap.size (w.heap.size + 2) g ∨ g = G) (w := w) (HB.out.ext hEW) (.inl (Mx.at (by omega))) (by omega) (HE.out.trans hEW) HS.out (fun g hg => .inl (Mx.sub g hg))
      rw [Nat.sub_zero, HKN.out, ← HTT.out] at HF
      clear hEW HS HBs HRR HQ HRB HRK HSZ HSZ2 hm
      go_wp2
      exact bodyPost_ret (v := .agg (reA s)) (by simp [results, Tryz.results41, go_sem, r0, r1, r2]) rfl HF.out
    · obtain ⟨k, rfl⟩ : ∃ k, m = k + 1 := ⟨m - 1, by omega⟩
      rw [show ((k + 1 : Nat) : Int) - 1 = (k : Int) by omega]
      have hEd := hEW.drew
      obtain ⟨b, off, y, hka, hkp, hkm, hb, ⟨e0, e1, e2, e3⟩, hy⟩ := kid_pe (RR.ext HRR.out hEd) k (by rw [← HKN.out]; omega)
      obtain ⟨⟨ab', aoff', haa, hac, ham, hab, _, hr3⟩, hax⟩ := (HQ.out.ext hEd).2 Lm hLn
      simp only [Option.some.injEq, Addr.mk.injEq, and_true] at haa
      obtain ⟨rfl, rfl⟩ := haa
      obtain ⟨d0, d3⟩ := HP0.out
      rw [← hEd.cell g0] at d0 d3
      rw [hka] at d3
      have HSS : Hid (SEv G w.heap.size s Lm b off x.kn x.kp ab (aoff + Lm * 3) (X Lm) (off + k * 4) y wr.drew) := ⟨(HBs.out.ext (Ext.refl _).drew).r3, d0, d3, hr3, e0, e1, e2, e3⟩
      have hMB : Mb (fun g => Mx M w.heap.size (w.heap.size + 2) g ∨ g = G) wr.drew := fun g hg => hg.elim (fun h1 => (HM.out.ext hEd) g h1) (fun h1 => by have := HBs.out.lt; rw [h1]; exact this)
      have hrb := HRB.out (x.kn - (k + 1)) (by rw [← HKN.out]; omega)
      rw [← HKN.out] at hrb
      rw [show x.kn - (x.kn - (k + 1)) = k + 1 by omega] at hrb
      have HSX := Lib.hid ((HS.out.ext (Ext.refl _).drew).toX hrb)
      have hn1 := nsum_mono (fun i => szE A d (t.2.2.2 i) + A + 1) (show k + 1 ≤ x.kn from hm)
      obtain ⟨F, hF⟩ : ∃ F, F = 1 + nsum (fun i => szE A d (t.2.2.2 i) + A + 1) x.kn - nsum (fun i => szE A d (t.2.2.2 i) + A + 1) (k + 1) := ⟨_, rfl⟩
      obtain ⟨Kz, hKz⟩ : ∃ Kz, Kz = szE A d (t.2.2.2 k) := ⟨_, rfl⟩
      rw [← hF] at HSX hrb
      have hz1 : F + Kz + A + 1 ≤ szE A (d + 1) t ∧ 1 ≤ F := by
        have h1 := HSZ2.out
        rw [← HKN.out] at h1
        rw [h1, hF, hKz]
        simp only [nsum] at hn1 ⊢
        omega
      have hz0 := HSZ.out
      have HRKk := Lib.hid (HRK.out k)
      rw [← hKz] at HRKk
      have HMU := Lib.hid (rb_mul hrb ((HQ.out.2 Lm hLn).2.rb hA))
      have HAX := Lib.hid hax
      have HY := Lib.hid hy
      have HMB := Lib.hid hMB
      have HQd := Lib.hid (HQ.out.ext hEd)
      have HGS := Lib.hid (HBs.out.ext (Ext.refl _).drew)
      have hz2 : 2 * szE A d (t.2.2.2 k) + A + 4 ≤ 1099511627776 := by rw [← hKz]; omega
      have HZ2 := Lib.hid hz2
      have HXN : Hid (hv (q Lm) (fun i => evT (aq q n) (terms d (t.2.2.2 i))) x.kn (x.kn - k) = hv (q Lm) (fun i => evT (aq q n) (terms d (t.2.2.2 i))) x.kn (x.kn - (k + 1)) * q Lm + evT (aq q n) (terms d (t.2.2.2 k))) := by
        show _ = _
        rw [show x.kn - k = (x.kn - (k + 1)) + 1 by omega, hv, show x.kn - 1 - (x.kn - (k + 1)) = k by omega]
      have HEr : Hid (Ext w1 wr.drew) := HEX2.out.drew
      have hkk : k < x.kn := by omega
      have hN1 : F + A + 2 ≤ 1099511627776 := by omega
      have hN2 : F + A + Kz + 2 ≤ 1099511627776 := by omega
      have hF1 := hz1.2
      have hK1 : 1 ≤ Kz := HRKk.out.pos
      generalize hv (q Lm) (fun i => evT (aq q n) (terms d (t.2.2.2 i))) x.kn (x.kn - (k + 1)) = hvj at *
      unfold maxLen at hkm ham
      clear hF hKz hz1 hz0 hn1 hrb hax hy hMB HS HBs HRB HRK HSZ HSZ2 hEW hEd d0 d3 e0 e1 e2 e3 hr3 hz2 hka
      go_upto_region 13 with (fail)
      refine wp_region_u (SEv G w.heap.size s Lm b off x.kn x.kp ab (aoff + Lm * 3) (X Lm) (off + k * 4) y) 16 (by kernel_rfl) HSS.out (fun hHeld => ?_)
      generalize wr.drew = wd at *
      have kw1 : IntKind.i64.wrap (Lm : Int) = Lm := IntWalk.i64_in _ (by omega)
      have kw2 : IntKind.i64.wrap (k : Int) = k := IntWalk.i64_in _ (by omega)
      ((refine wpAnyU_take 0 (oi := ?_) (v := ?_) (by kernel_rfl) (by kernel_rfl) (by kernel_rfl) (by kernel_rfl) (by first | exact hSn | exact hHeld) ?_ ?_ ?_ ?_ ?_; rotate_left 2; (simp only [List.getElem?_toArray, List.getElem?_cons_succ, List.getElem?_cons_zero]; rfl); rfl; (intro wS hSw; obtain ⟨⟨S1, S2, S3⟩, S4, S5, ⟨S6, S7, S8⟩, S9, S10, S11, S12⟩ := hSw; go_simp; try with_reducible rfl); (exact fun _ _ _ h => h); (try simp only [Act.put, List.setIfInBounds_toArray, List.set_cons_zero, List.set_cons_succ])); (refine wpAnyU_take 1 (oi := ?_) (v := ?_) (by kernel_rfl) (by kernel_rfl) (by kernel_rfl) (by kernel_rfl) (by first | exact hSn | exact hHeld) ?_ ?_ ?_ ?_ ?_; rotate_left 2; (simp only [List.getElem?_toArray, List.getElem?_cons_succ, List.getElem?_cons_zero]; rfl); rfl; (intro wS hSw; obtain ⟨⟨S1, S2, S3⟩, S4, S5, ⟨S6, S7, S8⟩, S9, S10, S11, S12⟩ := hSw; go_simp; try with_reducible rfl); (exact fun _ _ _ h => h); (try simp only [Act.put, List.setIfInBounds_toArray, List.set_cons_zero, List.set_cons_succ])); (refine wpAnyU_take 2 (oi := ?_) (v := ?_) (by kernel_rfl) (by kernel_rfl) (by kernel_rfl) (by kernel_rfl) (by first | exact hSn | exact hHeld) ?_ ?_ ?_ ?_ ?_; rotate_left 2; (simp only [List.getElem?_toArray, List.getElem?_cons_succ, List.getElem?_cons_zero]; rfl); rfl; (intro wS hSw; obtain ⟨⟨S1, S2, S3⟩, S4, S5, ⟨S6, S7, S8⟩, S9, S10, S11, S12⟩ := hSw; go_simp; try with_reducible rfl); (exact fun _ _ _ h => h); (try simp only [Act.put, List.setIfInBounds_toArray, List.set_cons_zero, List.set_cons_succ])); (refine wpAnyU_take 3 (oi := ?_) (v := ?_) (by kernel_rfl) (by kernel_rfl) (by kernel_rfl) (by kernel_rfl) (by first | exact hSn | exact hHeld) ?_ ?_ ?_ ?_ ?_; rotate_left 2; (simp only [List.getElem?_toArray, List.getElem?_cons_succ, List.getElem?_cons_zero]; rfl); rfl; (intro wS hSw; obtain ⟨⟨S1, S2, S3⟩, S4, S5, ⟨S6, S7, S8⟩, S9, S10, S11, S12⟩ := hSw; go_simp; try with_reducible rfl); (exact fun _ _ _ h => h); (try simp only [Act.put, List.setIfInBounds_toArray, List.set_cons_zero, List.set_cons_succ])); (refine wpAnyU_take 4 (oi := ?_) (v := ?_) (by kernel_rfl) (by kernel_rfl) (by kernel_rfl) (by kernel_rfl) (by first | exact hSn | exact hHeld) ?_ ?_ ?_ ?_ ?_; rotate_left 2; (simp only [List.getElem?_toArray, List.getElem?_cons_succ, List.getElem?_cons_zero]; rfl); rfl; (intro wS hSw; obtain ⟨⟨S1, S2, S3⟩, S4, S5, ⟨S6, S7, S8⟩, S9, S10, S11, S12⟩ := hSw; go_simp; try with_reducible rfl); (exact fun _ _ _ h => h); (try simp only [Act.put, List.setIfInBounds_toArray, List.set_cons_zero, List.set_cons_succ])); (refine wpAnyU_take 5 (oi := ?_) (v := ?_) (by kernel_rfl) (by kernel_rfl) (by kernel_rfl) (by kernel_rfl) (by first | exact hSn | exact hHeld) ?_ ?_ ?_ ?_ ?_; rotate_left 2; (simp only [List.getElem?_toArray, List.getElem?_cons_succ, List.getElem?_cons_zero]; rfl); rfl; (intro wS hSw; obtain ⟨⟨S1, S2, S3⟩, S4, S5, ⟨S6, S7, S8⟩, S9, S10, S11, S12⟩ := hSw; go_simp; try with_reducible rfl); (exact fun _ _ _ h => h); (try simp only [Act.put, List.setIfInBounds_toArray, List.set_cons_zero, List.set_cons_succ])); (refine wpAnyU_take 6 (oi := ?_) (v := ?_) (by kernel_rfl) (by kernel_rfl) (by kernel_rfl) (by kernel_rfl) (by first | exact hSn | exact hHeld) ?_ ?_ ?_ ?_ ?_; rotate_left 2; (simp only [List.getElem?_toArray, List.getElem?_cons_succ, List.getElem?_cons_zero]; rfl); rfl; (intro wS hSw; obtain ⟨⟨S1, S2, S3⟩, S4, S5, ⟨S6, S7, S8⟩, S9, S10, S11, S12⟩ := hSw; go_simp; try with_reducible rfl); (exact fun _ _ _ h => h); (try simp only [Act.put, List.setIfInBounds_toArray, List.set_cons_zero, List.set_cons_succ])); (refine wpAnyU_take 8 (oi := ?_) (v := ?_) (by kernel_rfl) (by kernel_rfl) (by kernel_rfl) (by kernel_rfl) (by first | exact hSn | exact hHeld) ?_ ?_ ?_ ?_ ?_; rotate_left 2; (simp only [List.getElem?_toArray, List.getElem?_cons_succ, List.getElem?_cons_zero]; rfl); rfl; (intro wS hSw; obtain ⟨⟨S1, S2, S3⟩, S4, S5, ⟨S6, S7, S8⟩, S9, S10, S11, S12⟩ := hSw; go_simp; try with_reducible rfl); (exact fun _ _ _ h => h); (try simp only [Act.put, List.setIfInBounds_toArray, List.set_cons_zero, List.set_cons_succ])); (refine wpAnyU_take 9 (oi := ?_) (v := ?_) (by kernel_rfl) (by kernel_rfl) (by kernel_rfl) (by kernel_rfl) (by first | exact hSn | exact hHeld) ?_ ?_ ?_ ?_ ?_; rotate_left 2; (simp only [List.getElem?_toArray, List.getElem?_cons_succ, List.getElem?_cons_zero]; rfl); rfl; (intro wS hSw; obtain ⟨⟨S1, S2, S3⟩, S4, S5, ⟨S6, S7, S8⟩, S9, S10, S11, S12⟩ := hSw; go_simp; try with_reducible rfl); (exact fun _ _ _ h => h); (try simp only [Act.put, List.setIfInBounds_toArray, List.set_cons_zero, List.set_cons_succ])); (refine wpAnyU_take 10 (oi := ?_) (v := ?_) (by kernel_rfl) (by kernel_rfl) (by kernel_rfl) (by kernel_rfl) (by first | exact hSn | exact hHeld) ?_ ?_ ?_ ?_ ?_; rotate_left 2; (simp only [List.getElem?_toArray, List.getElem?_cons_succ, List.getElem?_cons_zero]; rfl); rfl; (intro wS hSw; obtain ⟨⟨S1, S2, S3⟩, S4, S5, ⟨S6, S7, S8⟩, S9, S10, S11, S12⟩ := hSw; go_simp; try with_reducible rfl); (exact fun _ _ _ h => h); (try simp only [Act.put, List.setIfInBounds_toArray, List.set_cons_zero, List.set_cons_succ])); (refine wpAnyU_take 11 (oi := ?_) (v := ?_) (by kernel_rfl) (by kernel_rfl) (by kernel_rfl) (by kernel_rfl) (by first | exact hSn | exact hHeld) ?_ ?_ ?_ ?_ ?_; rotate_left 2; (simp only [List.getElem?_toArray, List.getElem?_cons_succ, List.getElem?_cons_zero]; rfl); rfl; (intro wS hSw; obtain ⟨⟨S1, S2, S3⟩, S4, S5, ⟨S6, S7, S8⟩, S9, S10, S11, S12⟩ := hSw; go_simp; try with_reducible rfl); (exact fun _ _ _ h => h); (try simp only [Act.put, List.setIfInBounds_toArray, List.set_cons_zero, List.set_cons_succ])); (refine wpAnyU_take 12 (oi := ?_) (v := ?_) (by kernel_rfl) (by kernel_rfl) (by kernel_rfl) (by kernel_rfl) (by first | exact hSn | exact hHeld) ?_ ?_ ?_ ?_ ?_; rotate_left 2; (simp only [List.getElem?_toArray, List.getElem?_cons_succ, List.getElem?_cons_zero]; rfl); rfl; (intro wS hSw; obtain ⟨⟨S1, S2, S3⟩, S4, S5, ⟨S6, S7, S8⟩, S9, S10, S11, S12⟩ := hSw; go_simp; try with_reducible rfl); (exact fun _ _ _ h => h); (try simp only [Act.put, List.setIfInBounds_toArray, List.set_cons_zero, List.set_cons_succ])); (refine wpAnyU_take 13 (oi := ?_) (v := ?_) (by kernel_rfl) (by kernel_rfl) (by kernel_rfl) (by kernel_rfl) (by first | exact hSn | exact hHeld) ?_ ?_ ?_ ?_ ?_; rotate_left 2; (simp only [List.getElem?_toArray, List.getElem?_cons_succ, List.getElem?_cons_zero]; rfl); rfl; (intro wS hSw; obtain ⟨⟨S1, S2, S3⟩, S4, S5, ⟨S6, S7, S8⟩, S9, S10, S11, S12⟩ := hSw; go_simp; try with_reducible rfl); (exact fun _ _ _ h => h); (try simp only [Act.put, List.setIfInBounds_toArray, List.set_cons_zero, List.set_cons_succ])))
      ((refine wpAnyU_one 7 (o := ?_) (by kernel_rfl) ?_ ?_; rotate_left 1; (simp only [List.getElem?_toArray, List.getElem?_cons_succ, List.getElem?_cons_zero]; rfl); intro K hK); go_simp; (refine (rat_mul F A s (X Lm) hvj (q Lm) _ HMB.out HSX.out HAX.out hF1 hA hN1).mono ?_); rintro e_ wz ⟨u1, rfl, hu1, he1⟩; go_wp2_with (fail); (try clear hSn); (have hSn := hHeld.ext he1); (refine hK.out _ _ (fun _ => hSn) ?_); clear hK K; (try simp only [Act.put, List.setIfInBounds_toArray, List.set_cons_zero, List.set_cons_succ]))
      ((refine wpAnyU_one 14 (o := ?_) (by kernel_rfl) ?_ ?_; rotate_left 1; (simp only [List.getElem?_toArray, List.getElem?_cons_succ, List.getElem?_cons_zero]; rfl); intro K hK); go_simp; (refine (ih _ (t.2.2.2 k) y (some ⟨ab, aoff, none⟩) n cap X q _ (HMB.out.ext he1) (RR.ext HY.out he1) (HQd.out.ext he1) HZ2.out).mono ?_); rintro e_ wz ⟨u2, rfl, hu2, he2⟩; go_wp2_with (fail); (try clear hSn); (have hSn := hHeld.ext (he1.trans he2)); (refine hK.out _ _ (fun _ => hSn) ?_); clear hK K; (try simp only [Act.put, List.setIfInBounds_toArray, List.set_cons_zero, List.set_cons_succ]))
      ((refine wpAnyU_one 15 (o := ?_) (by kernel_rfl) ?_ ?_; rotate_left 1; (simp only [List.getElem?_toArray, List.getElem?_cons_succ, List.getElem?_cons_zero]; rfl); intro K hK); go_simp; (refine (rat_add (F + A) Kz u1 u2 (hvj * q Lm) (evT (aq q n) (terms d (t.2.2.2 k))) _ (HMB.out.ext (he1.trans he2)) ((hu1.ext he2).toX HMU.out) (hu2.toX HRKk.out) (by omega) hK1 hN2).mono ?_); rintro e_ wz ⟨u3, rfl, hu3, he3⟩; go_wp2_with (fail); (try clear hSn); (have hSn := hHeld.ext ((he1.trans he2).trans he3)); (refine hK.out _ _ (fun _ => hSn) ?_); clear hK K; (try simp only [Act.put, List.setIfInBounds_toArray, List.set_cons_zero, List.set_cons_succ]))
      rename_i wz
      have HEL := Lib.hid ((he1.trans he2).trans he3)
      have HBz := HGS.out.ext HEL.out
      have hgz := HEr.out.trans HEL.out
      have HU3 := Lib.hid hu3
      clear he1 he2 he3 hu1 hu2 hu3 hSn hHeld
      obtain ⟨⟨q0, q1, q2, f0, f1, f2⟩, _, hkp, hext⟩ := fin3 (M' := fun g => Mx M w.heap.size (w.heap.size + 2) g ∨ g = G) (w := w1) (.bool u3.b) (.slice u3.a u3.n u3.p) (.slice u3.da u3.dn u3.dp) HBz (.inr rfl) (by rw [HGW.out]; exact Nat.le_refl _) hgz
      have HBN := Lib.hid (HBz.set3 (.bool u3.b) (.slice u3.a u3.n u3.p) (.slice u3.da u3.dn u3.dp))
      have HSN := Lib.hid (HU3.out.kp hkp)
      rw [← HXN.out] at HSN
      have HEN := Lib.hid hext
      simp only [arr] at q0 q1 q2
      clear hkp hext HBz hgz HU3 HSX HGS HAX HY HQd HSS
      ((refine wpAnyU_one 16 (o := ?_) (by kernel_rfl) ?_ ?_; rotate_left 1; (simp only [List.getElem?_toArray, List.getElem?_cons_succ, List.getElem?_cons_zero]; rfl); intro K hK); go_simp; (refine hK.out _ _ (fun h => absurd rfl h) ?_); clear hK K; refine wpAnyU_done (by kernel_rfl) ?_ _)
      go_wp2
      go_roundw
      case rel => exact ⟨k, u3, by omega, rfl, HBN, HSN, HEN⟩
      case measure => simp [intOf]
theorem rp_eval (A : Nat) (hA : 1 ≤ A) : ∀ d, EvCtr A d
  | 0 => fun M t x a n cap X q w hM h _ _ => h.elim
  | d + 1 => fun M t x a n cap X q w hM h hq hsz => by
    by_cases h1 : t.1 ≤ 0
    · exact eval_leaf A d M t x a n cap q w hM h h1
    · by_cases h2 : 4 < t.1
      · exact eval_high A d M t x a n cap q w hM h h2
      · by_cases h3 : (n : Int) < t.1
        · exact eval_miss A d (rp_eval A hA d) M t x a n cap X q w hM h hq hsz (by omega) h3
        · exact eval_loop A d hA (rp_eval A hA d) M t x a n cap X q w hM h hq hsz (by omega) (by omega)
end Go.Proofs.YtiopnmlohpmmiaaGreat
