/- recpoly: Const, Normal, Of, To, IsZero, scale, Same, Add, Mul, .. recpoly: scale, Same, Mul, Add, Sub, Scale, Neg. recpoly: scale, Mul, Add, Sub, Scale, Neg, Var. cylinderref22: Few, Terms. cylinderref22: Canonical, Equal. -/
import Derived.Test.YtjcceddloogiiaaGreatMg
set_option linter.unusedVariables false
set_option linter.unusedSimpArgs false

namespace Go.Proofs.YtjcceddloogiiaaGreat
open Go.RowKit

def PI (M : Nat → Prop) (w : World) (x : PE) (l : List Tm) : Prop := ∃ d, ∃ t : RT d, RR M w d t (.int .i64 x.lv) (.bool x.b) (.slice x.a x.n x.p) (.slice x.ka x.kn x.kp) ∧ (isCan d t = true ∨ TB d t) ∧ Sim (terms d t) l
section
variable {M M' : Nat → Prop} {w w' : World} {x : PE} {l r : List Tm}
theorem PI.ext (h : PI M w x l) (he : Ext w w') : PI M w' x l := by
 obtain ⟨d, t, h1, h2⟩ := h; exact ⟨d, t, RR.ext h1 he, h2⟩
theorem PI.more (h : PI M w x l) (hm : ∀ g, M' g → M g ∨ w.heap.size ≤ g) : PI M' w x l := by
 obtain ⟨d, t, h1, h2⟩ := h; exact ⟨d, t, RR.more hm h1, h2⟩
theorem CRx.pi {L : Nat} (h : CRx M w L x l) : PI M w x l := by
 obtain ⟨t, h1, h2, h3, h4⟩ := h; exact ⟨_, t, h1, .inl h2, h4⟩
theorem PI.sim (h : PI M w x l) (hs : Sim l r) : PI M w x r := by
 obtain ⟨d, t, h1, h2, h3⟩ := h; exact ⟨d, t, h1, h2, h3.trans hs⟩
end
theorem RR.pe {M : Nat → Prop} {w : World} {d : Nat} {t : RT d} {c0 c1 c2 c3 : Value} (h : RR M w d t c0 c1 c2 c3) : ∃ x : PE, c0 = .int .i64 x.lv ∧ c1 = .bool x.b ∧ c2 = .slice x.a x.n x.p ∧ c3 = .slice x.ka x.kn x.kp := by
 cases d with
 | zero => exact h.elim
 | succ d =>
  obtain ⟨rfl, rfl, ⟨a, p, rfl⟩, ka, kp, rfl⟩ := h.form
  exact ⟨⟨t.1, t.2.1.neg, a, t.2.1.n, p, ka, t.2.2.1, kp⟩, rfl, rfl, rfl, rfl⟩
def RetX (M : Nat → Prop) (w : World) (L : Nat) (l : List Tm) (e : Ending) (w' : World) : Prop := ∃ y : PE, e = .returned (.agg (peA y)) ∧ CRx M w' L y l ∧ Ext w w'
theorem BuildPost.x {M : Nat → Prop} {w w' : World} {L : Nat} {l : List Tm} {e : Ending} (h : BuildPost M w L l e w') : RetX M w L l e w' := by
 obtain ⟨c0, c1, c2, c3, rfl, h2, h3⟩ := h
 obtain ⟨y, rfl, rfl, rfl, rfl, hy, _⟩ := h2.pe
 exact ⟨y, rfl, hy, h3⟩
abbrev zA : Array Value := #[.int .i64 0, .bool false, .slice none 0 0, .slice none 0 0]
theorem retX {M M' : Nat → Prop} {w W : World} {g : Nat} {L : Nat} {l : List Tm} {y : PE} (hB : Blk W g 33 4 (arr zA)) (hg : M' g) (hw : w.heap.size ≤ g) (he : Ext w W) (hc : CRx M' W L y l) (hm : ∀ g, M g → M' g) :
  (W.cell? ⟨g, 0, none⟩ = some (.int .i64 0) ∧ W.cell? ⟨g, 1, none⟩ = some (.bool false) ∧ W.cell? ⟨g, 2, none⟩ = some (.slice none 0 0) ∧ W.cell? ⟨g, 3, none⟩ = some (.slice none 0 0)) ∧
  (W.frozen? ⟨g, 0, none⟩ = false ∧ W.frozen? ⟨g, 1, none⟩ = false ∧ W.frozen? ⟨g, 2, none⟩ = false ∧ W.frozen? ⟨g, 3, none⟩ = false) ∧
  (((((W.setCell ⟨g, 0, none⟩ (.int .i64 y.lv)).setCell ⟨g, 1, none⟩ (.bool y.b)).setCell ⟨g, 2, none⟩ (.slice y.a y.n y.p)).setCell ⟨g, 3, none⟩ (.slice y.ka y.kn y.kp)).cell? ⟨g, 0, none⟩ = some (.int .i64 y.lv) ∧ ((((W.setCell ⟨g, 0, none⟩ (.int .i64 y.lv)).setCell ⟨g, 1, none⟩ (.bool y.b)).setCell ⟨g, 2, none⟩ (.slice y.a y.n y.p)).setCell ⟨g, 3, none⟩ (.slice y.ka y.kn y.kp)).cell? ⟨g, 1, none⟩ = some (.bool y.b) ∧
   ((((W.setCell ⟨g, 0, none⟩ (.int .i64 y.lv)).setCell ⟨g, 1, none⟩ (.bool y.b)).setCell ⟨g, 2, none⟩ (.slice y.a y.n y.p)).setCell ⟨g, 3, none⟩ (.slice y.ka y.kn y.kp)).cell? ⟨g, 2, none⟩ = some (.slice y.a y.n y.p) ∧ ((((W.setCell ⟨g, 0, none⟩ (.int .i64 y.lv)).setCell ⟨g, 1, none⟩ (.bool y.b)).setCell ⟨g, 2, none⟩ (.slice y.a y.n y.p)).setCell ⟨g, 3, none⟩ (.slice y.ka y.kn y.kp)).cell? ⟨g, 3, none⟩ = some (.slice y.ka y.kn y.kp)) ∧
  Hid (RetX M w L l (.returned (.agg (peA y))) ((((W.setCell ⟨g, 0, none⟩ (.int .i64 y.lv)).setCell ⟨g, 1, none⟩ (.bool y.b)).setCell ⟨g, 2, none⟩ (.slice y.a y.n y.p)).setCell ⟨g, 3, none⟩ (.slice y.ka y.kn y.kp))) := by
 obtain ⟨h1, h2, h3, h4⟩ := retP (M := M) (w := w) hB hg hw he hc hm
 exact ⟨h1, h2, h3, h4.out.x⟩
def P4 (w : World) (b : Nat) (x : PE) : Prop := w.cell? ⟨b, 0, none⟩ = some (.int .i64 x.lv) ∧ w.cell? ⟨b, 1, none⟩ = some (.bool x.b) ∧ w.cell? ⟨b, 2, none⟩ = some (.slice x.a x.n x.p) ∧ w.cell? ⟨b, 3, none⟩ = some (.slice x.ka x.kn x.kp)
theorem P4.ext {w w' : World} {b : Nat} {x : PE} (h : P4 w b x) (he : Ext w w') : P4 w' b x := by
 have hb := World.block_lt_of_cell? _ _ h.1
 unfold P4; rw [he.cell hb, he.cell hb, he.cell hb, he.cell hb]; exact h
theorem Blk.p4 {w : World} {b : Nat} {t : TypeId} {x : PE} (h : Blk w b t 4 (arr (peA x))) : P4 w b x := ⟨h.cell (i := 0) (by omega), h.cell (i := 1) (by omega), h.cell (i := 2) (by omega), h.cell (i := 3) (by omega)⟩
theorem box1 {M : Nat → Prop} {w : World} (hM : Mb M w) (x : PE) : Ext w ((w.alloc (.cells (peA x) 33)).alloc (.cells zA 33)) ∧ P4 ((w.alloc (.cells (peA x) 33)).alloc (.cells zA 33)) w.heap.size x ∧
  Blk ((w.alloc (.cells (peA x) 33)).alloc (.cells zA 33)) (w.heap.size + 1) 33 4 (arr zA) ∧ Mb (Mx M w.heap.size (w.heap.size + 2)) ((w.alloc (.cells (peA x) 33)).alloc (.cells zA 33)) := by
 have h1 := Blk.of_arr (w.alloc (.cells (peA x) 33)) zA 33 4 rfl
 simp only [World.size_alloc] at h1
 exact ⟨((Ext.refl w).alloc _).alloc _, ((Blk.of_arr w (peA x) 33 4 rfl).alloc _).p4, h1, Mx.mb hM (by simp; omega) (by simp)⟩
theorem box2 {M : Nat → Prop} {w : World} (hM : Mb M w) (x y : PE) : Ext w (((w.alloc (.cells (peA x) 33)).alloc (.cells (peA y) 33)).alloc (.cells zA 33)) ∧ P4 (((w.alloc (.cells (peA x) 33)).alloc (.cells (peA y) 33)).alloc (.cells zA 33)) w.heap.size x ∧
  P4 (((w.alloc (.cells (peA x) 33)).alloc (.cells (peA y) 33)).alloc (.cells zA 33)) (w.heap.size + 1) y ∧
  Blk (((w.alloc (.cells (peA x) 33)).alloc (.cells (peA y) 33)).alloc (.cells zA 33)) (w.heap.size + 2) 33 4 (arr zA) ∧ Mb (Mx M w.heap.size (w.heap.size + 3)) (((w.alloc (.cells (peA x) 33)).alloc (.cells (peA y) 33)).alloc (.cells zA 33)) := by
 have h1 := Blk.of_arr ((w.alloc (.cells (peA x) 33)).alloc (.cells (peA y) 33)) zA 33 4 rfl
 have h2 := (Blk.of_arr (w.alloc (.cells (peA x) 33)) (peA y) 33 4 rfl).alloc (.cells zA 33)
 simp only [World.size_alloc] at h1 h2
 exact ⟨(((Ext.refl w).alloc _).alloc _).alloc _, (((Blk.of_arr w (peA x) 33 4 rfl).alloc _).alloc _).p4, h2.p4, h1, Mx.mb hM (by simp; omega) (by simp)⟩
theorem rp_can (M : Nat → Prop) (x : PE) (l : List Tm) (w : World) (hM : Mb M w) (h : PI M w x l) : Calls Tryz.prog 101 #[.agg (peA x)] w (RetX M w 4 l) := by
 obtain ⟨d, t, h1, h2, h3⟩ := h
 exact (rp_canonical M d t _ _ _ _ w hM h1 h2).mono fun e w' hp => (hp.sim h3).x
theorem rp_cpy (M : Nat → Prop) (L : Nat) (x : PE) (l : List Tm) (w : World) (hM : Mb M w) (h : CRx M w L x l) : Calls Tryz.prog 99 #[.agg (peA x)] w (RetX M w L l) :=
 (rp_copy L M l _ _ _ _ w hM h).mono fun e w' hp => hp.x
theorem rp_Normal (M : Nat → Prop) (x : PE) (l : List Tm) (w : World) (hM : Mb M w) (h : PI M w x l) : Calls Tryz.prog 36 #[.agg (peA x)] w (RetX M w 4 l) := by
 obtain ⟨hE, ⟨x0, x1, x2, x3⟩, hB, hM2⟩ := box1 hM x
 have h2 := (h.more (M' := Mx M w.heap.size (w.heap.size + 2)) (Mx.more (Nat.le_refl _))).ext hE
 go_enter Tryz.func36, Tryz.ntmps36
 go_wp2_with (fail)
 refine (rp_can _ x l _ hM2 h2).mono ?_
 rintro e w1 ⟨y, rfl, hy, he1⟩
 go_wp2_with (fail)
 refine (rp_cpy _ 4 y l _ (hM2.ext he1) hy).mono ?_
 rintro e w2 ⟨z, rfl, hz, he2⟩
 obtain ⟨⟨q0, q1, q2, q3⟩, ⟨f0, f1, f2, f3⟩, ⟨r0, r1, r2, r3⟩, HF⟩ := retX (M := M) (w := w) ((hB.ext he1).ext he2) (Mx.at (by omega)) (by omega) ((hE.trans he1).trans he2) hz Mx.sub
 clear hE hB hM2 h2 he1 he2 hy hz h x0 x1 x2 x3
 go_wp2
 exact bodyPost_ret (v := .agg (peA z)) (by simp [results, Tryz.results36, go_sem, r0, r1, r2, r3]) rfl HF.out
theorem rp_IsZero (M : Nat → Prop) (x : PE) (l : List Tm) (w : World) (hM : Mb M w) (h : PI M w x l) : Calls Tryz.prog 54 #[.agg (peA x)] w fun e w' => ∃ b : Bool, e = .returned (.bool b) ∧ (b = true ↔ Sim l []) ∧ Ext w w' := by
 have hE : Ext w (w.alloc (.cells (peA x) 33)) := (Ext.refl w).alloc _
 have hM2 : Mb M (w.alloc (.cells (peA x) 33)) := hM.ext hE
 go_enter Tryz.func54, Tryz.ntmps54
 go_wp2_with (fail)
 refine (rp_can _ x l _ hM2 (h.ext hE)).mono ?_
 rintro e w1 ⟨y, rfl, hy, he1⟩
 have hz := CR.isz hy
 have HZ := Lib.hid hz
 clear hz
 go_wp2_with (fail)
 refine (rp_isZero y.lv y.b y.a y.n y.p y.ka y.kn y.kp w1).mono ?_
 rintro e w2 ⟨rfl, he2⟩
 go_wp2
 go_ret
 exact ⟨_, rfl, HZ.out, (hE.trans he1).trans he2⟩
theorem rp_Const (M : Nat → Prop) (b : Bool) (a : Option Addr) (n p : Nat) (z : Int) (w : World) (hM : Mb M w) (h : IntV M w (.bool b) (.slice a n p) z) : Calls Tryz.prog 83 #[.agg #[.bool b, .slice a n p]] w (RetX M w 0 [(z, Mo.zero)]) := by
 have hE : Ext w ((w.alloc (.cells #[.bool b, .slice a n p] 31)).alloc (.cells zA 33)) := ((Ext.refl w).alloc _).alloc _
 have hB := Blk.of_arr (w.alloc (.cells #[.bool b, .slice a n p] 31)) zA 33 4 rfl
 simp only [World.size_alloc] at hB
 have hM2 : Mb (Mx M w.heap.size (w.heap.size + 2)) ((w.alloc (.cells #[.bool b, .slice a n p] 31)).alloc (.cells zA 33)) := Mx.mb hM (by simp; omega) (by simp)
 have h2 := (h.more (M' := Mx M w.heap.size (w.heap.size + 2)) (Mx.more (Nat.le_refl _))).ext hE
 go_enter Tryz.func83, Tryz.ntmps83
 go_wp2_with (fail)
 refine (int_normal _ _ z _ hM2 h2).mono ?_
 rintro e w1 ⟨d0, d1, rfl, hc, he1⟩
 obtain ⟨b2, a2, n2, p2, rfl, rfl⟩ := hc.form
 obtain ⟨⟨q0, q1, q2, q3⟩, ⟨f0, f1, f2, f3⟩, ⟨r0, r1, r2, r3⟩, HF⟩ := retX (M := M) (w := w) (y := ⟨0, b2, a2, n2, p2, none, 0, 0⟩) (hB.ext he1) (Mx.at (by omega)) (by omega) (hE.trans he1) (CR.const hc 0) Mx.sub
 clear hE hB hM2 h2 he1 hc h
 go_wp2
 exact bodyPost_ret (v := .agg #[.int .i64 0, .bool b2, .slice a2 n2 p2, .slice none 0 0]) (by simp [results, Tryz.results83, go_sem, r0, r1, r2, r3]) rfl HF.out
theorem rp_Of (M : Nat → Prop) (v : Value) (l : List Tm) (w : World) (hM : Mb M w) (h : PolyV M w v l) (hL : dlen (nrm l) ≤ 1099511627776) (he : ∀ s ∈ l, ∀ k, s.2.get k ≤ 1073741824) : Calls Tryz.prog 49 #[v] w (RetX M w 4 (norm l)) := by
 have hE : Ext w (w.alloc (.cells zA 33)) := (Ext.refl w).alloc _
 have hB := Blk.of_arr w zA 33 4 rfl
 have hM2 : Mb (Mx M w.heap.size (w.heap.size + 1)) (w.alloc (.cells zA 33)) := Mx.mb hM (by simp) (by simp)
 have h2 := (h.more (M' := Mx M w.heap.size (w.heap.size + 1)) (Mx.more (Nat.le_refl _))).ext hE
 have HE := Lib.hid he
 clear he
 go_enter Tryz.func49, Tryz.ntmps49
 go_wp2_with (fail)
 refine (sp_normal _ v l _ hM2 h2 hL).mono ?_
 rintro e w1 ⟨u, rfl, hu, he1⟩
 have HU := Lib.hid hu
 clear hu
 go_wp2_with (fail)
 refine (build_norm (hM2.ext he1) HU.out HE.out).mono ?_
 intro e w2 hp
 obtain ⟨y, rfl, hy, he2⟩ := hp.x
 clear hp
 go_wp2_with (fail)
 refine (rp_cpy _ 4 y (norm l) _ ((hM2.ext he1).ext he2) hy).mono ?_
 rintro e w3 ⟨z, rfl, hz, he3⟩
 obtain ⟨⟨q0, q1, q2, q3⟩, ⟨f0, f1, f2, f3⟩, ⟨r0, r1, r2, r3⟩, HF⟩ := retX (M := M) (w := w) (((hB.ext he1).ext he2).ext he3) (Mx.at (by omega)) (by omega) (((hE.trans he1).trans he2).trans he3) hz Mx.sub
 clear hE hB hM2 h2 he1 he2 he3 hy hz h
 go_wp2
 exact bodyPost_ret (v := .agg (peA z)) (by simp [results, Tryz.results49, go_sem, r0, r1, r2, r3]) rfl HF.out
theorem rp_To (M : Nat → Prop) (d : Nat) (t : RT d) (x : PE) (w : World) (hM : Mb M w) (h : RR M w d t (.int .i64 x.lv) (.bool x.b) (.slice x.a x.n x.p) (.slice x.ka x.kn x.kp)) (hT : TB d t) : Calls Tryz.prog 21 #[.agg (peA x)] w fun e w' => ∃ u, e = .returned u ∧ PolyO M w.heap.size w' u (norm (terms d t)) ∧ Ext w w' := by
 have hE : Ext w (w.alloc (.cells (peA x) 33)) := (Ext.refl w).alloc _
 have hM2 : Mb M (w.alloc (.cells (peA x) 33)) := hM.ext hE
 have h2 := RR.ext h hE
 have hco := rp_collect d M (w.alloc (.cells (peA x) 33)).heap.size t _ _ _ _ (.slice none 0 0) 0 (fun _ => 0) (fun _ => ⟨false, none, 0, 0, Mo.zero⟩) Mo.zero _ (Nat.le_refl _) (RR.more (fun g hg => hg) h2) ⟨Own.nil _ _ _ _ _, fun i hi => by omega⟩ (by have := hT.2.1; omega) (room_zero hT.1)
 have HCO := Lib.hid hco
 have HT := Lib.hid hT
 clear hco h h2 hT
 go_enter Tryz.func21, Tryz.ntmps21
 go_wp2_with (fail)
 refine HCO.out.mono ?_
 rintro e w2 ⟨v', n', z', x', rfl, hR, hx, hg, _⟩
 have hx' : xls n' z' x' = terms d t := by rw [hx, shift_zero]; rfl
 have he2 : Ext (w.alloc (.cells (peA x) 33)) w2 := grown_ext hg
 have hn' : n' ≤ 1099511627776 := by have := congrArg List.length hx'; rw [xls_len] at this; have := HT.out.2.1; omega
 have hV := hR.toV (fun g hg => hM2.new hg) hn'
 rw [hx'] at hV
 have HV := Lib.hid hV
 clear hx hx' hR hg hV hn'
 go_wp2_with (fail)
 refine (sp_normal _ v' (terms d t) w2 (hM2.ext he2) HV.out HT.out.2.2.1).mono ?_
 rintro e w3 ⟨u, rfl, hu, he3⟩
 have HF : Hid (PolyO M w.heap.size w3 u (norm (terms d t))) := hu.base (by have := (hE.trans he2).size; omega)
 clear hu
 go_wp2
 go_ret
 exact ⟨u, rfl, HF.out, (hE.trans he2).trans he3⟩
end Go.Proofs.YtjcceddloogiiaaGreat

namespace Go.Proofs.YtjcceddloogiiaaGreat
open Go.RowKit

def SP2 (b : Nat) (x y : PE) (w : World) : Prop := P4 w b x ∧ P4 w (b + 1) y
theorem SP2.ext {b : Nat} {x y : PE} {w w' : World} (h : SP2 b x y w) (he : Ext w w') : SP2 b x y w' := ⟨h.1.ext he, h.2.ext he⟩
def SPI (b : Nat) (x : PE) (c0 c1 : Value) (w : World) : Prop := P4 w b x ∧ w.cell? ⟨b + 1, 0, none⟩ = some c0 ∧ w.cell? ⟨b + 1, 1, none⟩ = some c1
theorem SPI.ext {b : Nat} {x : PE} {c0 c1 : Value} {w w' : World} (h : SPI b x c0 c1 w) (he : Ext w w') : SPI b x c0 c1 w' := by
 have hb := World.block_lt_of_cell? _ _ h.2.1
 exact ⟨h.1.ext he, by rw [he.cell hb]; exact h.2.1, by rw [he.cell hb]; exact h.2.2⟩
theorem rp_mulx (M : Nat → Prop) (L : Nat) (x y : PE) (l r : List Tm) (B C : Nat) (w : World) (hM : Mb M w) (h : CRx M w L x l) (k : CRx M w L y r) (hL : dlen (nrm l) + dlen (nrm r) ≤ 1099511627776) (hB : Deg B l) (hC : Deg C r) (hBC : (B + 1) * (C + 1) ≤ 1099511627776) : Calls Tryz.prog 129 #[.agg (peA x), .agg (peA y)] w (RetX M w L (pmul l r)) :=
 (rp_mul L M l r B C _ _ _ _ _ _ _ _ w hM h k hL hB hC hBC).mono fun e w' hp => hp.x
theorem rp_samex (M : Nat → Prop) (L : Nat) (x y : PE) (l r : List Tm) (w : World) (h : CRx M w L x l) (k : CRx M w L y r) : Calls Tryz.prog 125 #[.agg (peA x), .agg (peA y)] w fun e w' => e = .returned (.bool (simB l r)) ∧ Ext w w' := rp_same L M l r _ _ _ _ _ _ _ _ w h k
theorem CRx.up {M : Nat → Prop} {w : World} {L D : Nat} {x : PE} {l : List Tm} (h : CRx M w L x l) (hl : L ≤ D) : CRx M w D x l := CR.up h hl
theorem CRx.sim {M : Nat → Prop} {w : World} {L : Nat} {x : PE} {l r : List Tm} (h : CRx M w L x l) (hs : Sim l r) : CRx M w L x r := CR.sim h hs
theorem CRx.nn {M : Nat → Prop} {w : World} {L : Nat} {x : PE} {l : List Tm} (h : CRx M w L x l) : ∀ m : Mo, m.nn = false → coefAt l m = 0 := CR.nn h
theorem deg_const (c : Int) : Deg 0 [(c, Mo.zero)] := by
 intro m hm k
 have : m = Mo.zero := by
  refine Classical.byContradiction fun h => hm ?_
  simp only [coefAt]; rw [if_neg (fun e => h e.symm)]; rfl
 rw [this, get_zero]; exact Int.le_refl _
set_option maxHeartbeats 2000000 in
theorem rp_Same (M : Nat → Prop) (x y : PE) (l r : List Tm) (w : World) (hM : Mb M w) (h : PI M w x l) (k : PI M w y r) : Calls Tryz.prog 52 #[.agg (peA x), .agg (peA y)] w fun e w' => ∃ b : Bool, e = .returned (.bool b) ∧ (b = true ↔ Sim l r) ∧ Ext w w' := by
 have hE : Ext w ((w.alloc (.cells (peA x) 33)).alloc (.cells (peA y) 33)) := ((Ext.refl w).alloc _).alloc _
 have b1 := Blk.of_arr (w.alloc (.cells (peA x) 33)) (peA y) 33 4 rfl
 simp only [World.size_alloc] at b1
 have hS : SP2 w.heap.size x y ((w.alloc (.cells (peA x) 33)).alloc (.cells (peA y) 33)).drew := SP2.ext ⟨((Blk.of_arr w (peA x) 33 4 rfl).alloc _).p4, b1.p4⟩ (Ext.refl _).drew
 have hE2 := hE.trans (Ext.refl _).drew
 have HX := Lib.hid (h.ext hE2)
 have HY := Lib.hid (k.ext hE2)
 have HM := Lib.hid (hM.ext hE2)
 have HE := Lib.hid hE2
 have HS := Lib.hid hS
 clear hE b1 hS hE2 h k
 go_enter Tryz.func52, Tryz.ntmps52
 go_wp2
 refine wp_region_u (SP2 w.heap.size x y) 5 (by kernel_rfl) HS.out (fun hHeld => ?_)
 (refine tkB [0, 2] ?_; (iterate 2 (refine tk1 (oi := ?_) (v := ?_) (by kernel_rfl) (by first | exact hSn | exact hHeld) ?_ ?_ ?_ ?_ ?_; rotate_left 2; (simp only [xgA, xgB, xgC]; rfl); rfl; (intro wS hSw; obtain ⟨⟨S1, S2, S3, S4⟩, S5, S6, S7, S8⟩ := hSw; go_simp; try with_reducible rfl); (exact fun _ _ _ h => h); (try simp only [Act.put, xgD, xgE, xgF]))); refine tkE ?_)
 ((refine wpAnyU_one 1 (o := ?_) (by kernel_rfl) ?_ ?_; rotate_left 1; (simp only [xgA, xgB, xgC]; rfl); intro K hK); go_simp; (refine (rp_can _ x l _ HM.out HX.out).mono ?_); rintro e_ wz ⟨x1, rfl, hx1, he1⟩; go_wp2_with (fail); (try clear hSn); (have hSn := hHeld.ext he1); (refine hK.out _ _ (fun _ => hSn) ?_); clear hK K; (try simp only [Act.put, xgD, xgE, xgF]))
 ((refine wpAnyU_one 3 (o := ?_) (by kernel_rfl) ?_ ?_; rotate_left 1; (simp only [xgA, xgB, xgC]; rfl); intro K hK); go_simp; (refine (rp_can _ y r _ (HM.out.ext he1) (HY.out.ext he1)).mono ?_); rintro e_ wz ⟨y1, rfl, hy1, he2⟩; go_wp2_with (fail); (try clear hSn); (have hSn := hHeld.ext (he1.trans he2)); (refine hK.out _ _ (fun _ => hSn) ?_); clear hK K; (try simp only [Act.put, xgD, xgE, xgF]))
 ((refine wpAnyU_one 4 (o := ?_) (by kernel_rfl) ?_ ?_; rotate_left 1; (simp only [xgA, xgB, xgC]; rfl); intro K hK); go_simp; (refine (rp_samex _ 4 x1 y1 l r _ (hx1.ext he2) hy1).mono ?_); rintro e_ wz ⟨rfl, he3⟩; go_wp2_with (fail); (try clear hSn); (have hSn := hHeld.ext ((he1.trans he2).trans he3)); (refine hK.out _ _ (fun _ => hSn) ?_); clear hK K; (try simp only [Act.put, xgD, xgE, xgF]))
 ((refine wpAnyU_one 5 (o := ?_) (by kernel_rfl) ?_ ?_; rotate_left 1; (simp only [xgA, xgB, xgC]; rfl); intro K hK); go_simp; (refine hK.out _ _ (fun h => absurd rfl h) ?_); clear hK K; refine wpAnyU_done (by kernel_rfl) ?_ _)
 have HF : Hid (simB l r = true ↔ Sim l r) := simB_iff hx1.nn hy1.nn
 have HE3 := Lib.hid (HE.out.trans ((he1.trans he2).trans he3))
 clear he1 he2 he3 hx1 hy1 hHeld
 go_wp2
 go_ret
 exact ⟨_, rfl, HF.out, HE3.out⟩
end Go.Proofs.YtjcceddloogiiaaGreat

namespace Go.Proofs.YtjcceddloogiiaaGreat
open Go.RowKit

theorem nrm_one (z : Int) (m : Mo) : nrm [(z, m)] = z.natAbs := by simp [nrm]
theorem boxI {M : Nat → Prop} {w : World} (hM : Mb M w) (x : PE) (c0 c1 : Value) : Ext w (((w.alloc (.cells (peA x) 33)).alloc (.cells #[c0, c1] 31)).alloc (.cells zA 33)) ∧ SPI w.heap.size x c0 c1 (((w.alloc (.cells (peA x) 33)).alloc (.cells #[c0, c1] 31)).alloc (.cells zA 33)) ∧
  Blk (((w.alloc (.cells (peA x) 33)).alloc (.cells #[c0, c1] 31)).alloc (.cells zA 33)) (w.heap.size + 2) 33 4 (arr zA) ∧ Mb (Mx M w.heap.size (w.heap.size + 3)) (((w.alloc (.cells (peA x) 33)).alloc (.cells #[c0, c1] 31)).alloc (.cells zA 33)) := by
 have h1 := Blk.of_arr ((w.alloc (.cells (peA x) 33)).alloc (.cells #[c0, c1] 31)) zA 33 4 rfl
 have h2 := (Blk.of_arr (w.alloc (.cells (peA x) 33)) #[c0, c1] 31 2 rfl).alloc (.cells zA 33)
 simp only [World.size_alloc] at h1 h2
 exact ⟨(((Ext.refl w).alloc _).alloc _).alloc _, ⟨(((Blk.of_arr w (peA x) 33 4 rfl).alloc _).alloc _).p4, h2.cell (i := 0) (by omega), h2.cell (i := 1) (by omega)⟩, h1, Mx.mb hM (by simp; omega) (by simp)⟩
set_option maxHeartbeats 2000000 in
theorem rp_scale (M : Nat → Prop) (L : Nat) (x : PE) (l : List Tm) (B : Nat) (b : Bool) (a : Option Addr) (n p : Nat) (z : Int) (w : World) (hM : Mb M w) (h : CRx M w L x l) (k : IntV M w (.bool b) (.slice a n p) z) (hL : dlen (nrm l) + dlen z.natAbs ≤ 1099511627776) (hB : Deg B l) (hBC : B + 1 ≤ 1099511627776) :
  Calls Tryz.prog 100 #[.agg (peA x), .agg #[.bool b, .slice a n p]] w (RetX M w L (pmul l [(z, Mo.zero)])) := by
 obtain ⟨hE0, hS0, hB0, hM0⟩ := boxI hM x (.bool b) (.slice a n p)
 have HE := Lib.hid (hE0.trans (Ext.refl _).drew)
 have HS := Lib.hid (hS0.ext (Ext.refl _).drew)
 have HB := Lib.hid (hB0.ext (Ext.refl _).drew)
 have HM := Lib.hid (hM0.ext (Ext.refl _).drew)
 have HX := Lib.hid ((h.more (M' := Mx M w.heap.size (w.heap.size + 3)) (Mx.more (Nat.le_refl _))).ext HE.out)
 have HI := Lib.hid ((k.more (M' := Mx M w.heap.size (w.heap.size + 3)) (Mx.more (Nat.le_refl _))).ext HE.out)
 have HD := Lib.hid hB
 clear hE0 hS0 hB0 hM0 h k hB
 go_enter Tryz.func100, Tryz.ntmps100
 go_wp2
 refine wp_region_u (SPI w.heap.size x (.bool b) (.slice a n p)) 4 (by kernel_rfl) HS.out (fun hHeld => ?_)
 (refine tkB [0, 1] ?_; (iterate 2 (refine tk1 (oi := ?_) (v := ?_) (by kernel_rfl) (by first | exact hSn | exact hHeld) ?_ ?_ ?_ ?_ ?_; rotate_left 2; (simp only [xgA, xgB, xgC]; rfl); rfl; (intro wS hSw; obtain ⟨⟨S1, S2, S3, S4⟩, S5, S6⟩ := hSw; go_simp; try with_reducible rfl); (exact fun _ _ _ h => h); (try simp only [Act.put, xgD, xgE, xgF]))); refine tkE ?_)
 ((refine wpAnyU_one 2 (o := ?_) (by kernel_rfl) ?_ ?_; rotate_left 1; (simp only [xgA, xgB, xgC]; rfl); intro K hK); go_simp; (refine (rp_Const _ b a n p z _ HM.out HI.out).mono ?_); rintro e_ wz ⟨y, rfl, hy, he1⟩; go_wp2_with (fail); (try clear hSn); (have hSn := hHeld.ext he1); (refine hK.out _ _ (fun _ => hSn) ?_); clear hK K; (try simp only [Act.put, xgD, xgE, xgF]))
 ((refine wpAnyU_one 3 (o := ?_) (by kernel_rfl) ?_ ?_; rotate_left 1; (simp only [xgA, xgB, xgC]; rfl); intro K hK); go_simp; (refine (rp_mulx _ L x y l [(z, Mo.zero)] B 0 _ (HM.out.ext he1) (HX.out.ext he1) (hy.up (Nat.zero_le _)) (by rw [nrm_one]; exact hL) HD.out (deg_const z) (by omega)).mono ?_); rintro e_ wz ⟨v, rfl, hv, he2⟩; go_wp2_with (fail); (try clear hSn); (have hSn := hHeld.ext (he1.trans he2)); (refine hK.out _ _ (fun _ => hSn) ?_); clear hK K; (try simp only [Act.put, xgD, xgE, xgF]))
 obtain ⟨⟨q0, q1, q2, q3⟩, ⟨f0, f1, f2, f3⟩, ⟨r0, r1, r2, r3⟩, HF⟩ := retX (M := M) (w := w) (HB.out.ext (he1.trans he2)) (Mx.at (by omega)) (by omega) (HE.out.trans (he1.trans he2)) hv Mx.sub
 ((refine wpAnyU_one 4 (o := ?_) (by kernel_rfl) ?_ ?_; rotate_left 1; (simp only [xgA, xgB, xgC]; rfl); intro K hK); go_simp; (refine hK.out _ _ (fun h => absurd rfl h) ?_); clear hK K; refine wpAnyU_done (by kernel_rfl) ?_ _)
 clear he1 he2 hy hv hHeld
 go_wp2
 exact bodyPost_ret (v := .agg (peA v)) (by simp [results, Tryz.results100, go_sem, r0, r1, r2, r3]) rfl HF.out
set_option maxHeartbeats 2000000 in
theorem rp_Mul (M : Nat → Prop) (x y : PE) (l r : List Tm) (B C : Nat) (w : World) (hM : Mb M w) (h : PI M w x l) (k : PI M w y r) (hL : dlen (nrm l) + dlen (nrm r) ≤ 1099511627776) (hB : Deg B l) (hC : Deg C r) (hBC : (B + 1) * (C + 1) ≤ 1099511627776) :
  Calls Tryz.prog 56 #[.agg (peA x), .agg (peA y)] w (RetX M w 4 (pmul l r)) := by
 obtain ⟨hE0, hP0, hP1, hB0, hM0⟩ := box2 hM x y
 have HE := Lib.hid (hE0.trans (Ext.refl _).drew)
 have HS : Hid (SP2 w.heap.size x y _) := SP2.ext ⟨hP0, hP1⟩ (Ext.refl _).drew
 have HB := Lib.hid (hB0.ext (Ext.refl _).drew)
 have HM := Lib.hid (hM0.ext (Ext.refl _).drew)
 have HX := Lib.hid ((h.more (M' := Mx M w.heap.size (w.heap.size + 3)) (Mx.more (Nat.le_refl _))).ext HE.out)
 have HY := Lib.hid ((k.more (M' := Mx M w.heap.size (w.heap.size + 3)) (Mx.more (Nat.le_refl _))).ext HE.out)
 clear hE0 hP0 hP1 hB0 hM0 h k
 have HDB := Lib.hid hB
 have HDC := Lib.hid hC
 clear hB hC
 go_enter Tryz.func56, Tryz.ntmps56
 go_wp2
 refine wp_region_u (SP2 w.heap.size x y) 6 (by kernel_rfl) HS.out (fun hHeld => ?_)
 (refine tkB [0, 2] ?_; (iterate 2 (refine tk1 (oi := ?_) (v := ?_) (by kernel_rfl) (by first | exact hSn | exact hHeld) ?_ ?_ ?_ ?_ ?_; rotate_left 2; (simp only [xgA, xgB, xgC]; rfl); rfl; (intro wS hSw; obtain ⟨⟨S1, S2, S3, S4⟩, S5, S6, S7, S8⟩ := hSw; go_simp; try with_reducible rfl); (exact fun _ _ _ h => h); (try simp only [Act.put, xgD, xgE, xgF]))); refine tkE ?_)
 ((refine wpAnyU_one 1 (o := ?_) (by kernel_rfl) ?_ ?_; rotate_left 1; (simp only [xgA, xgB, xgC]; rfl); intro K hK); go_simp; (refine (rp_can _ x l _ HM.out HX.out).mono ?_); rintro e_ wz ⟨x1, rfl, hx1, he1⟩; go_wp2_with (fail); (try clear hSn); (have hSn := hHeld.ext he1); (refine hK.out _ _ (fun _ => hSn) ?_); clear hK K; (try simp only [Act.put, xgD, xgE, xgF]))
 ((refine wpAnyU_one 3 (o := ?_) (by kernel_rfl) ?_ ?_; rotate_left 1; (simp only [xgA, xgB, xgC]; rfl); intro K hK); go_simp; (refine (rp_can _ y r _ (HM.out.ext he1) (HY.out.ext he1)).mono ?_); rintro e_ wz ⟨y1, rfl, hy1, he2⟩; go_wp2_with (fail); (try clear hSn); (have hSn := hHeld.ext (he1.trans he2)); (refine hK.out _ _ (fun _ => hSn) ?_); clear hK K; (try simp only [Act.put, xgD, xgE, xgF]))
 ((refine wpAnyU_one 4 (o := ?_) (by kernel_rfl) ?_ ?_; rotate_left 1; (simp only [xgA, xgB, xgC]; rfl); intro K hK); go_simp; (refine (rp_mulx _ 4 x1 y1 l r B C _ (HM.out.ext (he1.trans he2)) (hx1.ext he2) hy1 hL HDB.out HDC.out hBC).mono ?_); rintro e_ wz ⟨u, rfl, hu, he3⟩; go_wp2_with (fail); (try clear hSn); (have hSn := hHeld.ext ((he1.trans he2).trans he3)); (refine hK.out _ _ (fun _ => hSn) ?_); clear hK K; (try simp only [Act.put, xgD, xgE, xgF]))
 ((refine wpAnyU_one 5 (o := ?_) (by kernel_rfl) ?_ ?_; rotate_left 1; (simp only [xgA, xgB, xgC]; rfl); intro K hK); go_simp; (refine (rp_cpy _ 4 u _ _ (HM.out.ext ((he1.trans he2).trans he3)) hu).mono ?_); rintro e_ wz ⟨v, rfl, hv, he4⟩; go_wp2_with (fail); (try clear hSn); (have hSn := hHeld.ext (((he1.trans he2).trans he3).trans he4)); (refine hK.out _ _ (fun _ => hSn) ?_); clear hK K; (try simp only [Act.put, xgD, xgE, xgF]))
 obtain ⟨⟨q0, q1, q2, q3⟩, ⟨f0, f1, f2, f3⟩, ⟨r0, r1, r2, r3⟩, HF⟩ := retX (M := M) (w := w) (HB.out.ext (((he1.trans he2).trans he3).trans he4)) (Mx.at (by omega)) (by omega) (HE.out.trans (((he1.trans he2).trans he3).trans he4)) hv Mx.sub
 ((refine wpAnyU_one 6 (o := ?_) (by kernel_rfl) ?_ ?_; rotate_left 1; (simp only [xgA, xgB, xgC]; rfl); intro K hK); go_simp; (refine hK.out _ _ (fun h => absurd rfl h) ?_); clear hK K; refine wpAnyU_done (by kernel_rfl) ?_ _)
 clear he1 he2 he3 he4 hx1 hy1 hu hv hHeld
 go_wp2
 exact bodyPost_ret (v := .agg (peA v)) (by simp [results, Tryz.results56, go_sem, r0, r1, r2, r3]) rfl HF.out
set_option maxHeartbeats 2000000 in
theorem rp_Scale (M : Nat → Prop) (x : PE) (l : List Tm) (B : Nat) (b : Bool) (a : Option Addr) (n p : Nat) (z : Int) (w : World) (hM : Mb M w) (h : PI M w x l) (k : IntV M w (.bool b) (.slice a n p) z) (hL : dlen (nrm l) + dlen z.natAbs ≤ 1099511627776) (hB : Deg B l) (hBC : B + 1 ≤ 1099511627776) :
  Calls Tryz.prog 24 #[.agg (peA x), .agg #[.bool b, .slice a n p]] w (RetX M w 4 (pmul l [(z, Mo.zero)])) := by
 obtain ⟨hE0, hS0, hB0, hM0⟩ := boxI hM x (.bool b) (.slice a n p)
 have HE := Lib.hid (hE0.trans (Ext.refl _).drew)
 have HS := Lib.hid (hS0.ext (Ext.refl _).drew)
 have HB := Lib.hid (hB0.ext (Ext.refl _).drew)
 have HM := Lib.hid (hM0.ext (Ext.refl _).drew)
 have HX := Lib.hid ((h.more (M' := Mx M w.heap.size (w.heap.size + 3)) (Mx.more (Nat.le_refl _))).ext HE.out)
 have HI := Lib.hid ((k.more (M' := Mx M w.heap.size (w.heap.size + 3)) (Mx.more (Nat.le_refl _))).ext HE.out)
 have HD := Lib.hid hB
 clear hE0 hS0 hB0 hM0 h k hB
 go_enter Tryz.func24, Tryz.ntmps24
 go_wp2
 refine wp_region_u (SPI w.heap.size x (.bool b) (.slice a n p)) 5 (by kernel_rfl) HS.out (fun hHeld => ?_)
 (refine tkB [0, 2] ?_; (iterate 2 (refine tk1 (oi := ?_) (v := ?_) (by kernel_rfl) (by first | exact hSn | exact hHeld) ?_ ?_ ?_ ?_ ?_; rotate_left 2; (simp only [xgA, xgB, xgC]; rfl); rfl; (intro wS hSw; obtain ⟨⟨S1, S2, S3, S4⟩, S5, S6⟩ := hSw; go_simp; try with_reducible rfl); (exact fun _ _ _ h => h); (try simp only [Act.put, xgD, xgE, xgF]))); refine tkE ?_)
 ((refine wpAnyU_one 1 (o := ?_) (by kernel_rfl) ?_ ?_; rotate_left 1; (simp only [xgA, xgB, xgC]; rfl); intro K hK); go_simp; (refine (rp_can _ x l _ HM.out HX.out).mono ?_); rintro e_ wz ⟨x1, rfl, hx1, he1⟩; go_wp2_with (fail); (try clear hSn); (have hSn := hHeld.ext he1); (refine hK.out _ _ (fun _ => hSn) ?_); clear hK K; (try simp only [Act.put, xgD, xgE, xgF]))
 ((refine wpAnyU_one 3 (o := ?_) (by kernel_rfl) ?_ ?_; rotate_left 1; (simp only [xgA, xgB, xgC]; rfl); intro K hK); go_simp; (refine (rp_scale _ 4 x1 l B b a n p z _ (HM.out.ext he1) hx1 (HI.out.ext he1) hL HD.out hBC).mono ?_); rintro e_ wz ⟨u, rfl, hu, he2⟩; go_wp2_with (fail); (try clear hSn); (have hSn := hHeld.ext (he1.trans he2)); (refine hK.out _ _ (fun _ => hSn) ?_); clear hK K; (try simp only [Act.put, xgD, xgE, xgF]))
 ((refine wpAnyU_one 4 (o := ?_) (by kernel_rfl) ?_ ?_; rotate_left 1; (simp only [xgA, xgB, xgC]; rfl); intro K hK); go_simp; (refine (rp_cpy _ 4 u _ _ (HM.out.ext (he1.trans he2)) hu).mono ?_); rintro e_ wz ⟨v, rfl, hv, he3⟩; go_wp2_with (fail); (try clear hSn); (have hSn := hHeld.ext ((he1.trans he2).trans he3)); (refine hK.out _ _ (fun _ => hSn) ?_); clear hK K; (try simp only [Act.put, xgD, xgE, xgF]))
 obtain ⟨⟨q0, q1, q2, q3⟩, ⟨f0, f1, f2, f3⟩, ⟨r0, r1, r2, r3⟩, HF⟩ := retX (M := M) (w := w) (HB.out.ext ((he1.trans he2).trans he3)) (Mx.at (by omega)) (by omega) (HE.out.trans ((he1.trans he2).trans he3)) hv Mx.sub
 ((refine wpAnyU_one 5 (o := ?_) (by kernel_rfl) ?_ ?_; rotate_left 1; (simp only [xgA, xgB, xgC]; rfl); intro K hK); go_simp; (refine hK.out _ _ (fun h => absurd rfl h) ?_); clear hK K; refine wpAnyU_done (by kernel_rfl) ?_ _)
 clear he1 he2 he3 hx1 hu hv hHeld
 go_wp2
 exact bodyPost_ret (v := .agg (peA v)) (by simp [results, Tryz.results24, go_sem, r0, r1, r2, r3]) rfl HF.out
theorem krow2 {M : Nat → Prop} {w : World} {x y : PE} {L : Nat} {l r : List Tm} (hM : Mb M w) (hx : CRx M w L x l) (hy : CRx M w L y r) : KRow M (w.alloc (.cells #[.int .i64 x.lv, .bool x.b, .slice x.a x.n x.p, .slice x.ka x.kn x.kp, .int .i64 y.lv, .bool y.b, .slice y.a y.n y.p, .slice y.ka y.kn y.kp] 33)) L (.slice (some ⟨w.heap.size, 0, none⟩) 2 2) 2 (fun i => if i = 0 then l else r) := by
 have hB := Blk.of_arr w #[.int .i64 x.lv, .bool x.b, .slice x.a x.n x.p, .slice x.ka x.kn x.kp, .int .i64 y.lv, .bool y.b, .slice y.a y.n y.p, .slice y.ka y.kn y.kp] 33 8 rfl
 have hE : Ext w (w.alloc (.cells #[.int .i64 x.lv, .bool x.b, .slice x.a x.n x.p, .slice x.ka x.kn x.kp, .int .i64 y.lv, .bool y.b, .slice y.a y.n y.p, .slice y.ka y.kn y.kp] 33)) := (Ext.refl w).alloc _
 refine ⟨by omega, .inr ⟨w.heap.size, 0, 2, rfl, Nat.le_refl _, by unfold maxLen; omega, ⟨hB.lt, hM.new (Nat.le_refl _)⟩, fun i hi => ?_⟩⟩
 have : i = 0 ∨ i = 1 := by omega
 rcases this with rfl | rfl
 ·exact ⟨_, _, _, _, hB.cell (i := 0) (by omega), hB.cell (i := 1) (by omega), hB.cell (i := 2) (by omega), hB.cell (i := 3) (by omega), hx.ext hE⟩
 ·exact ⟨_, _, _, _, hB.cell (i := 4) (by omega), hB.cell (i := 5) (by omega), hB.cell (i := 6) (by omega), hB.cell (i := 7) (by omega), hy.ext hE⟩
theorem psum_two (l r : List Tm) : psum 2 (fun i => if i = 0 then l else r) = l ++ r := by
 rw [psum_succ, psum_succ, psum_zero]; rfl
theorem rp_addx (M : Nat → Prop) (L : Nat) (v : Value) (N : Nat) (P : Nat → List Tm) (w : World) (hM : Mb M w) (h : KRow M w L v N P) (hL : dlen (nrm (psum N P)) ≤ 1099511627776) : Calls Tryz.prog 130 #[v] w (RetX M w L (psum N P)) := (rp_add L M v N P w hM h hL).mono fun e w' hp => hp.x
set_option maxHeartbeats 2000000 in
theorem rp_Add (M : Nat → Prop) (x y : PE) (l r : List Tm) (w : World) (hM : Mb M w) (h : PI M w x l) (k : PI M w y r) (hL : dlen (nrm (l ++ r)) ≤ 1099511627776) :
  Calls Tryz.prog 64 #[.agg (peA x), .agg (peA y)] w (RetX M w 4 (l ++ r)) := by
 obtain ⟨hE0, hP0, hP1, hB0, hM0⟩ := box2 hM x y
 have HE := Lib.hid (hE0.trans (Ext.refl _).drew)
 have HS : Hid (SP2 w.heap.size x y _) := SP2.ext ⟨hP0, hP1⟩ (Ext.refl _).drew
 have HB := Lib.hid (hB0.ext (Ext.refl _).drew)
 have HM := Lib.hid (hM0.ext (Ext.refl _).drew)
 have HX := Lib.hid ((h.more (M' := Mx M w.heap.size (w.heap.size + 3)) (Mx.more (Nat.le_refl _))).ext HE.out)
 have HY := Lib.hid ((k.more (M' := Mx M w.heap.size (w.heap.size + 3)) (Mx.more (Nat.le_refl _))).ext HE.out)
 clear hE0 hP0 hP1 hB0 hM0 h k
 go_enter Tryz.func64, Tryz.ntmps64
 go_wp2
 refine wp_region_u (SP2 w.heap.size x y) 7 (by kernel_rfl) HS.out (fun hHeld => ?_)
 (refine tkB [0, 2] ?_; (iterate 2 (refine tk1 (oi := ?_) (v := ?_) (by kernel_rfl) (by first | exact hSn | exact hHeld) ?_ ?_ ?_ ?_ ?_; rotate_left 2; (simp only [xgA, xgB, xgC]; rfl); rfl; (intro wS hSw; obtain ⟨⟨S1, S2, S3, S4⟩, S5, S6, S7, S8⟩ := hSw; go_simp; try with_reducible rfl); (exact fun _ _ _ h => h); (try simp only [Act.put, xgD, xgE, xgF]))); refine tkE ?_)
 ((refine wpAnyU_one 1 (o := ?_) (by kernel_rfl) ?_ ?_; rotate_left 1; (simp only [xgA, xgB, xgC]; rfl); intro K hK); go_simp; (refine (rp_can _ x l _ HM.out HX.out).mono ?_); rintro e_ wz ⟨x1, rfl, hx1, he1⟩; go_wp2_with (fail); (try clear hSn); (have hSn := hHeld.ext he1); (refine hK.out _ _ (fun _ => hSn) ?_); clear hK K; (try simp only [Act.put, xgD, xgE, xgF]))
 ((refine wpAnyU_one 3 (o := ?_) (by kernel_rfl) ?_ ?_; rotate_left 1; (simp only [xgA, xgB, xgC]; rfl); intro K hK); go_simp; (refine (rp_can _ y r _ (HM.out.ext he1) (HY.out.ext he1)).mono ?_); rintro e_ wz ⟨y1, rfl, hy1, he2⟩; go_wp2_with (fail); (try clear hSn); (have hSn := hHeld.ext (he1.trans he2)); (refine hK.out _ _ (fun _ => hSn) ?_); clear hK K; (try simp only [Act.put, xgD, xgE, xgF]))
 rename_i wz
 have hM3 := HM.out.ext (he1.trans he2)
 have hkr := krow2 hM3 (hx1.ext he2) hy1
 have he3 : Ext _ (wz.alloc (.cells #[.int .i64 x1.lv, .bool x1.b, .slice x1.a x1.n x1.p, .slice x1.ka x1.kn x1.kp, .int .i64 y1.lv, .bool y1.b, .slice y1.a y1.n y1.p, .slice y1.ka y1.kn y1.kp] 33)) := (he1.trans he2).alloc _
 (refine wpAnyU_one 4 (o := ?_) (by kernel_rfl) ?_ ?_; rotate_left 1; (simp only [xgA, xgB, xgC]; rfl); intro K hK)
 go_simp
 refine hK.out _ _ (fun _ => hHeld.ext he3) ?_
 clear hK K
 (try simp only [Act.put, xgD, xgE, xgF])
 ((refine wpAnyU_one 5 (o := ?_) (by kernel_rfl) ?_ ?_; rotate_left 1; (simp only [xgA, xgB, xgC]; rfl); intro K hK); go_simp; (refine (rp_addx _ 4 _ 2 _ _ (HM.out.ext he3) hkr (by rw [psum_two]; exact hL)).mono ?_); rintro e_ wz ⟨u, rfl, hu, he4⟩; go_wp2_with (fail); (try clear hSn); (have hSn := hHeld.ext (he3.trans he4)); (refine hK.out _ _ (fun _ => hSn) ?_); clear hK K; (try simp only [Act.put, xgD, xgE, xgF]))
 rw [psum_two] at hu
 ((refine wpAnyU_one 6 (o := ?_) (by kernel_rfl) ?_ ?_; rotate_left 1; (simp only [xgA, xgB, xgC]; rfl); intro K hK); go_simp; (refine (rp_cpy _ 4 u _ _ (HM.out.ext (he3.trans he4)) hu).mono ?_); rintro e_ wz ⟨v, rfl, hv, he5⟩; go_wp2_with (fail); (try clear hSn); (have hSn := hHeld.ext ((he3.trans he4).trans he5)); (refine hK.out _ _ (fun _ => hSn) ?_); clear hK K; (try simp only [Act.put, xgD, xgE, xgF]))
 obtain ⟨⟨q0, q1, q2, q3⟩, ⟨f0, f1, f2, f3⟩, ⟨r0, r1, r2, r3⟩, HF⟩ := retX (M := M) (w := w) (HB.out.ext ((he3.trans he4).trans he5)) (Mx.at (by omega)) (by omega) (HE.out.trans ((he3.trans he4).trans he5)) hv Mx.sub
 ((refine wpAnyU_one 7 (o := ?_) (by kernel_rfl) ?_ ?_; rotate_left 1; (simp only [xgA, xgB, xgC]; rfl); intro K hK); go_simp; (refine hK.out _ _ (fun h => absurd rfl h) ?_); clear hK K; refine wpAnyU_done (by kernel_rfl) ?_ _)
 clear he1 he2 he3 he4 he5 hx1 hy1 hu hv hHeld hkr hM3
 go_wp2
 exact bodyPost_ret (v := .agg (peA v)) (by simp [results, Tryz.results64, go_sem, r0, r1, r2, r3]) rfl HF.out
end Go.Proofs.YtjcceddloogiiaaGreat

namespace Go.Proofs.YtjcceddloogiiaaGreat
open Go.RowKit

def TermsPost (M : Nat → Prop) (base : Nat) (w : World) (l : List Tm) (e : Ending) (w' : World) : Prop := ∃ u n z x, e = .returned u ∧ RowV M base w' u n z x ∧ (∀ g, u.ownBlock = some g → w.heap.size ≤ g) ∧ xls n z x = l ∧ Ext w w'
def TermsCtr (d : Nat) : Prop := ∀ (M : Nat → Prop) (base : Nat) (t : RT d) (c0 c1 c2 c3 : Value) (w : World), base ≤ w.heap.size → RR (Mf M base) w d t c0 c1 c2 c3 → (terms d t).length ≤ 1099511627776 → d ≤ 1000 → Calls Tryz.prog 91 #[.agg #[c0, c1, c2, c3]] w (TermsPost M base w (terms d t))
theorem terms_exp {M : Nat → Prop} {w : World} : ∀ {d : Nat} {t : RT d} {c0 c1 c2 c3 : Value}, RR M w d t c0 c1 c2 c3 → ∀ s ∈ terms d t, ∀ k, 0 ≤ s.2.get k ∧ s.2.get k ≤ (d : Int) * 1099511627776
 | 0, _, _, _, _, _, h, _, _, _ => h.elim
 | d + 1, t, c0, c1, c2, c3, h, s, hs, k => by
  unfold terms at hs
  split at hs
  ·simp only [List.mem_singleton] at hs; subst hs; simp only; rw [get_zero]; omega
  ·split at hs
   ·cases hs
   ·obtain ⟨i, hi, u, hu, rfl⟩ := poly_mem hs
    obtain ⟨rfl, rfl, ⟨a, p, rfl⟩, ka, kp, rfl⟩ := h.form
    obtain ⟨b, off, _, _, _, _, e0, e1, e2, e3, _, _, _, _, hr⟩ := h.kids i hi
    have h1 := terms_exp hr u hu k
    have hn := h.2.2.2.1
    simp only
    rw [get_add, get_xp _ _ _ (by omega) (by omega)]
    have e : ((d + 1 : Nat) : Int) * 1099511627776 = (d : Int) * 1099511627776 + 1099511627776 := by omega
    split <;> omega
theorem teA_upd (x : TE) (j : Nat) (hj : j < 4) (q : Int) (i : Nat) (hi : i < 6) : upd (arr (teA x)) (2 + j) (.int .i64 (x.m.get (j + 1) + q)) i = arr (teA ⟨x.b, x.a, x.n, x.p, Mo.add x.m (xp (j + 1) q)⟩) i := by
 match j, hj, i, hi with
 | 0, _, 0, _ => rfl
 | 0, _, 1, _ => rfl
 | 0, _, 2, _ => simp [upd, arr, Mo.add, xp, Mo.get]
 | 0, _, 3, _ => simp [upd, arr, Mo.add, xp]
 | 0, _, 4, _ => simp [upd, arr, Mo.add, xp]
 | 0, _, 5, _ => simp [upd, arr, Mo.add, xp]
 | 1, _, 0, _ => rfl
 | 1, _, 1, _ => rfl
 | 1, _, 2, _ => simp [upd, arr, Mo.add, xp]
 | 1, _, 3, _ => simp [upd, arr, Mo.add, xp, Mo.get]
 | 1, _, 4, _ => simp [upd, arr, Mo.add, xp]
 | 1, _, 5, _ => simp [upd, arr, Mo.add, xp]
 | 2, _, 0, _ => rfl
 | 2, _, 1, _ => rfl
 | 2, _, 2, _ => simp [upd, arr, Mo.add, xp]
 | 2, _, 3, _ => simp [upd, arr, Mo.add, xp]
 | 2, _, 4, _ => simp [upd, arr, Mo.add, xp, Mo.get]
 | 2, _, 5, _ => simp [upd, arr, Mo.add, xp]
 | 3, _, 0, _ => rfl
 | 3, _, 1, _ => rfl
 | 3, _, 2, _ => simp [upd, arr, Mo.add, xp]
 | 3, _, 3, _ => simp [upd, arr, Mo.add, xp]
 | 3, _, 4, _ => simp [upd, arr, Mo.add, xp]
 | 3, _, 5, _ => simp [upd, arr, Mo.add, xp, Mo.get]
theorem te_get (x : TE) (j : Nat) (hj : j < 4) : arr (teA x) (2 + j) = .int .i64 (x.m.get (j + 1)) := by
 match j, hj with
 | 0, _ => rfl
 | 1, _ => rfl
 | 2, _ => rfl
 | 3, _ => rfl
set_option maxRecDepth 100000 in
set_option maxHeartbeats 4000000 in
theorem terms_leaf (d : Nat) (M : Nat → Prop) (base : Nat) (t : RT (d + 1)) (c0 c1 c2 c3 : Value) (w : World) (hbase : base ≤ w.heap.size) (h : RR (Mf M base) w (d + 1) t c0 c1 c2 c3) (hl : t.1 ≤ 0 ∨ 4 < t.1) : Calls Tryz.prog 91 #[.agg #[c0, c1, c2, c3]] w (TermsPost M base w (terms (d + 1) t)) := by
 obtain ⟨rfl, rfl, ⟨a, p, rfl⟩, ka, kp, rfl⟩ := h.form
 rcases hl with hl | hl
 ·have hT : terms (d + 1) t = [(t.2.1.val, Mo.zero)] := terms_const hl
  have HF : Hid (∀ W, Ext w W → TermsPost M base w (terms (d + 1) t) (.returned (.slice (some ⟨W.heap.size, 0, none⟩) 1 1)) (W.alloc (.cells #[.bool t.2.1.neg, .slice a t.2.1.n p, .int .i64 0, .int .i64 0, .int .i64 0, .int .i64 0] 130))) := by
   intro W hW
   refine ⟨_, 1, fun _ => t.2.1.val, fun _ => ⟨t.2.1.neg, a, t.2.1.n, p, Mo.zero⟩, rfl, ⟨.inr ⟨W.heap.size, 1, _, rfl, by have := hW.size; omega, Blk.of_arr W #[.bool t.2.1.neg, .slice a t.2.1.n p, .int .i64 0, .int .i64 0, .int .i64 0, .int .i64 0] 130 6 rfl, Nat.le_refl _, by unfold maxLen; omega, fun j hj => ?_⟩, fun i hi => ?_⟩, fun g hg => ?_, ?_, hW.alloc _⟩
   ·match j, hj with
    | 0, _ => rfl
    | 1, _ => rfl
    | 2, _ => rfl
    | 3, _ => rfl
    | 4, _ => rfl
    | 5, _ => rfl
   ·exact (h.2.2.1.toV.ext hW).ext ((Ext.refl W).alloc _)
   ·cases hg; exact hW.size
   ·rw [hT]; rfl
  have hl2 : decide (4 < t.1) = false := decide_eq_false (by omega)
  have hl3 : decide (t.1 ≤ 0) = true := decide_eq_true hl
  have hF2 := HF.out (w.alloc (.cells #[.int .i64 t.1, .bool t.2.1.neg, .slice a t.2.1.n p, .slice ka t.2.2.1 kp] 33)) ((Ext.refl w).alloc _)
  simp only [World.size_alloc] at hF2
  have HF2 := Lib.hid hF2
  clear h hT hl hF2 HF
  go_enter Tryz.func91, Tryz.ntmps91
  go_wp2
  go_ret
  exact HF2.out
 ·have hT : terms (d + 1) t = [] := by unfold terms; rw [if_neg (by omega), if_pos hl]
  have HT := Lib.hid hT
  have hl2 : decide (4 < t.1) = true := decide_eq_true hl
  clear h hT hl
  go_enter Tryz.func91, Tryz.ntmps91
  go_wp2
  go_ret
  exact ⟨.slice none 0 0, 0, fun _ => 0, fun _ => ⟨false, none, 0, 0, Mo.zero⟩, rfl, ⟨Own.nil _ _ _ _ _, (fun i hi => by omega)⟩, (fun g hg => by cases hg), (by rw [HT.out]; rfl), (Ext.refl w).alloc _⟩
theorem RowV.own {M : Nat → Prop} {base : Nat} {w : World} {v : Value} {n : Nat} {z : Nat → Int} {x : Nat → TE} (h : RowV M base w v n z x) : ∀ g, v.ownBlock = some g → base ≤ g ∧ g < w.heap.size := fun g hg => h.1.lt g hg
theorem RowV.at {M : Nat → Prop} {base : Nat} {w : World} {a : Option Addr} {n cap : Nat} {z : Nat → Int} {x : Nat → TE} (h : RowV M base w (.slice a n cap) n z x) (k : Nat) (hk : k < n) : ∃ g, a = some ⟨g, 0, none⟩ ∧ n ≤ cap ∧ cap ≤ maxLen ∧ g < w.heap.size ∧ w.cell? ⟨g, k * 6, none⟩ = some (.bool (x k).b) ∧ w.cell? ⟨g, k * 6 + 1, none⟩ = some (.slice (x k).a (x k).n (x k).p) ∧ w.cell? ⟨g, k * 6 + 2, none⟩ = some (.int .i64 (x k).m.a) ∧ w.cell? ⟨g, k * 6 + 3, none⟩ = some (.int .i64 (x k).m.b) ∧ w.cell? ⟨g, k * 6 + 4, none⟩ = some (.int .i64 (x k).m.c) ∧ w.cell? ⟨g, k * 6 + 5, none⟩ = some (.int .i64 (x k).m.d) := by
 obtain ⟨g, cap', F, h1, hg, hB, hc, hm, hF⟩ := h.1.some (by omega)
 simp only [Value.slice.injEq, true_and] at h1
 obtain ⟨rfl, rfl⟩ := h1
 refine ⟨g, rfl, hc, hm, hB.lt, ?_, ?_, ?_, ?_, ?_, ?_⟩
 ·rw [hB.cell (by omega), hF _ (by omega)]; exact congrArg some (tcell0 _ _ _ _)
 ·rw [hB.cell (by omega), hF _ (by omega)]; exact congrArg some (tcell1 _ _ _ _)
 ·rw [hB.cell (by omega), hF _ (by omega)]; exact congrArg some (tcell2 _ _ _ _)
 ·rw [hB.cell (by omega), hF _ (by omega)]; exact congrArg some (tcell3 _ _ _ _)
 ·rw [hB.cell (by omega), hF _ (by omega)]; exact congrArg some (tcell4 _ _ _ _)
 ·rw [hB.cell (by omega), hF _ (by omega)]; exact congrArg some (tcell5 _ _ _ _)
theorem xls_shift_succ (L : Nat) (i : Int) (k : Nat) (z : Nat → Int) (x : Nat → TE) : shift (xp L i) (xls (k + 1) z x) = shift (xp L i) (xls k z x) ++ [(z k, Mo.add (x k).m (xp L i))] := by
 rw [xls_succ, shift_append]; rfl
set_option maxRecDepth 100000 in
set_option maxHeartbeats 8000000 in
theorem terms_walk (d : Nat) (ih : TermsCtr d) (M : Nat → Prop) (base : Nat) (t : RT (d + 1)) (c0 c1 c2 c3 : Value) (w : World) (hbase : base ≤ w.heap.size) (h : RR (Mf M base) w (d + 1) t c0 c1 c2 c3) (hlen : (terms (d + 1) t).length ≤ 1099511627776) (hd : d + 1 ≤ 1000) (hl : 1 ≤ t.1 ∧ t.1 ≤ 4) : Calls Tryz.prog 91 #[.agg #[c0, c1, c2, c3]] w (TermsPost M base w (terms (d + 1) t)) := by
 obtain ⟨i0, hi, hz0, hz1, hz2⟩ := info_parts Tryz.info130
 obtain ⟨rfl, rfl, ⟨a, p, rfl⟩, ka, kp, rfl⟩ := h.form
 have hT : terms (d + 1) t = poly t.1.toNat t.2.2.1 (fun i => terms d (t.2.2.2 i)) := terms_node hl.1 hl.2
 have HK : Hid (∀ i, i < t.2.2.1 → ∃ b off, ka = some ⟨b, off, none⟩ ∧ t.2.2.1 ≤ kp ∧ kp ≤ maxLen ∧ b < w.heap.size ∧ ∃ e0 e1 e2 e3, w.cell? ⟨b, off + i * 4, none⟩ = some e0 ∧ w.cell? ⟨b, off + i * 4 + 1, none⟩ = some e1 ∧ w.cell? ⟨b, off + i * 4 + 2, none⟩ = some e2 ∧ w.cell? ⟨b, off + i * 4 + 3, none⟩ = some e3 ∧ RR (Mf M base) w d (t.2.2.2 i) e0 e1 e2 e3) := fun i hi => h.kids i hi
 have hnL := h.2.2.2.1
 rw [hT] at hlen ⊢
 have HLEN := Lib.hid hlen
 have HIH := Lib.hid ih
 clear h hT ih hlen
 obtain ⟨lv, r, kn, kid⟩ := t
 simp only at *
 obtain ⟨j, rfl⟩ : ∃ j : Nat, lv = (j : Int) + 1 := ⟨(lv - 1).toNat, by omega⟩
 rw [show ((j : Int) + 1).toNat = j + 1 by omega] at HLEN ⊢
 have hj4 : j < 4 := by omega
 have lj0 : (0 : Int) ≤ (j : Int) := Int.natCast_nonneg _
 have lj1 : (j : Int) < 4 := by omega
 have dl1 : decide (4 < (j : Int) + 1) = false := decide_eq_false (by omega)
 have dl2 : decide ((j : Int) + 1 ≤ 0) = false := decide_eq_false (by omega)
 have HBX := Lib.hid (Blk.of_arr w #[.int .i64 ((j : Int) + 1), .bool r.neg, .slice a r.n p, .slice ka kn kp] 33 4 rfl)
 have HE0 : Hid (Ext w (w.alloc (.cells #[.int .i64 ((j : Int) + 1), .bool r.neg, .slice a r.n p, .slice ka kn kp] 33))) := (Ext.refl w).alloc _
 go_enter Tryz.func91, Tryz.ntmps91
 go_wp2
 go_loopw [4, 3] (fun i v wr => ∃ (q n : Nat) (z : Nat → Int) (x : Nat → TE), q ≤ kn ∧ i = .int .i64 q ∧ RowV M base wr v n z x ∧ Hid (∀ g, v.ownBlock = some g → w.heap.size + 1 ≤ g) ∧ Hid (xls n z x = poly (j + 1) q (fun i => terms d (kid i))) ∧ Hid (Ext (w.alloc (.cells #[.int .i64 ((j : Int) + 1), .bool r.neg, .slice a r.n p, .slice ka kn kp] 33)) wr)) (fun i _ _ => kn - (intOf i).toNat)
 case atStart => exact ⟨0, 0, fun _ => 0, fun _ => ⟨false, none, 0, 0, Mo.zero⟩, Nat.zero_le _, rfl, ⟨Own.nil _ _ _ _ _, fun i hi => by omega⟩, (fun g hg => by cases hg), rfl, Ext.refl _⟩
 case round =>
  obtain ⟨q, n, z, x, hq, rfl, hR, HOB, HXL, HER⟩ := hrel
  obtain ⟨va, vc, rfl⟩ := hR.1.form
  have hbx := HBX.out.ext HER.out
  have y0 := hbx.cell (i := 0) (by omega)
  have y3 := hbx.cell (i := 3) (by omega)
  simp only [arr] at y0 y3
  have hbl := hbx.lt
  have HEW := Lib.hid (HE0.out.trans HER.out)
  clear hbx
  by_cases hlt : q < kn
  ·obtain ⟨b, off, rfl, hnk, hkm, hb, e0, e1, e2, e3, k0, k1, k2, k3, hRR⟩ := HK.out q hlt
   rw [← HEW.out.cell hb] at k0 k1 k2 k3
   have hbw : b < wr.heap.size := by have := HEW.out.size; omega
   obtain ⟨X, rfl, rfl, rfl, rfl⟩ := hRR.pe
   have hlk : (terms d (kid q)).length + (poly (j + 1) q (fun i => terms d (kid i))).length ≤ 1099511627776 := by
    have h1 := poly_len_le (j + 1) kn (q + 1) (fun i => terms d (kid i)) (by omega)
    rw [poly_succ, List.length_append] at h1
    have h2 := HLEN.out
    simp only [shift, List.length_map] at h1
    omega
   have CTR := Lib.hid (HIH.out M base (kid q) _ _ _ _ wr (by have := HEW.out.size; omega) (RR.ext hRR HEW.out) (by omega) (by omega))
   have HEXP := Lib.hid (terms_exp hRR)
   clear hRR
   go_wp2_with (fail)
   refine (CTR.out).mono ?_
   rintro e w2 ⟨u, n2, z2, x2, rfl, hR2, hob2, hx2, he2⟩
   obtain ⟨ua, uc, rfl⟩ := hR2.1.form
   have HX2 := Lib.hid hx2
   have HOB2 := Lib.hid hob2
   have HR2 := Lib.hid hR2
   have hRv := hR.ext he2
   have HER2 := Lib.hid (HER.out.trans he2)
   have hn2L : n2 + n ≤ 1099511627776 := by
    have h1 := congrArg List.length hx2
    have h2 := congrArg List.length HXL.out
    rw [xls_len] at h1 h2
    omega
   have HRV := Lib.hid hRv
   have hqL : (q : Int) ≤ 1099511627776 := by omega
   have HVB : Hid (∀ g, (Value.slice va n vc).ownBlock = some g → g < wr.heap.size) := fun g hg => (hR.1.lt g hg).2
   clear hx2 hob2 hR2 hR hRv he2 y0 y3 k0 k1 k2 k3
   go_wp2
   obtain ⟨wo, rfl⟩ : ∃ wo : World, wo = wr := ⟨_, rfl⟩
   go_loopw [6, 3] (fun i v wr => ∃ (k n' : Nat) (z' : Nat → Int) (x' : Nat → TE), k ≤ n2 ∧ i = .int .i64 k ∧ RowV M base wr v n' z' x' ∧ Hid (∀ g, v.ownBlock = some g → w.heap.size + 1 ≤ g ∧ (Value.slice ua n2 uc).ownBlock ≠ some g) ∧ Hid (xls n' z' x' = poly (j + 1) q (fun i => terms d (kid i)) ++ shift (xp (j + 1) (q : Int)) (xls k z2 x2)) ∧ Hid (RowV M base wr (.slice ua n2 uc) n2 z2 x2) ∧ Hid (Ext (w.alloc (.cells #[.int .i64 ((j : Int) + 1), .bool r.neg, .slice a r.n p, .slice (some ⟨b, off, none⟩) kn kp] 33)) wr)) (fun i _ _ => n2 - (intOf i).toNat)
   case atStart => exact ⟨0, n, z, x, Nat.zero_le _, rfl, HRV.out, fun g hg => ⟨HOB.out g hg, fun e => by have := HOB2.out g e; have := HVB.out g hg; omega⟩, by show _ = _; rw [HXL.out]; simp [xls, shift], HR2, HER2⟩
   case round =>
    clear HER2 HRV HR2
    obtain ⟨k, n', z', x', hk, rfl, hR', HOV, HXV, HRU, HEI⟩ := hrel
    obtain ⟨va, vc, rfl⟩ := hR'.1.form
    have hbx := HBX.out.ext HEI.out
    have y0 := hbx.cell (i := 0) (by omega)
    simp only [arr] at y0
    have hbl2 := hbx.lt
    clear hbx
    by_cases hkn : k < n2
    ·obtain ⟨g2, rfl, hu1, hu2, hu3, c0, c1, c2, c3, c4, c5⟩ := HRU.out.at k hkn
     have hIk := HRU.out.2 k hkn
     have hn'L : n' = (poly (j + 1) q (fun i => terms d (kid i))).length + k := by
      have h2 := congrArg List.length HXV.out
      rw [xls_len, List.length_append] at h2
      simp only [shift, List.length_map, xls_len] at h2
      exact h2
     have hnn : n' + 1 ≤ 1099511627776 := by
      have h1 := congrArg List.length HX2.out
      rw [xls_len] at h1
      omega
     have hex := HEXP.out (z2 k, (x2 k).m) (by rw [← HX2.out]; exact xls_mem hkn) (j + 1)
     simp only at hex
     have hex1 : 0 ≤ (x2 k).m.get (j + 1) := hex.1
     have hex2 : (x2 k).m.get (j + 1) ≤ 1099511627776000 := by have := hex.2; omega
     clear hex hn'L
     have HIK := Lib.hid hIk
     have hB1 := Blk.of_arr wr #[.bool (x2 k).b, .slice (x2 k).a (x2 k).n (x2 k).p, .int .i64 (x2 k).m.a, .int .i64 (x2 k).m.b, .int .i64 (x2 k).m.c, .int .i64 (x2 k).m.d] 130 6 rfl
     have s0 := hB1.cell (i := 2 + j) (by omega)
     rw [te_get _ _ hj4] at s0
     have s1 := hB1.frozen (2 + j)
     have hB2 := (hB1.set (2 + j) (.int .i64 ((x2 k).m.get (j + 1) + (q : Int)))).congr (f' := arr (teA ⟨(x2 k).b, (x2 k).a, (x2 k).n, (x2 k).p, Mo.add (x2 k).m (xp (j + 1) (q : Int))⟩)) (fun i hi => teA_upd (x2 k) j hj4 q i hi)
     have o0 := hB2.cell (i := 0) (by omega)
     have o1 := hB2.cell (i := 1) (by omega)
     have o2 := hB2.cell (i := 2) (by omega)
     have o3 := hB2.cell (i := 3) (by omega)
     have o4 := hB2.cell (i := 4) (by omega)
     have o5 := hB2.cell (i := 5) (by omega)
     simp only [arr] at o0 o1 o2 o3 o4 o5
     have hE1 : Ext wr (wr.alloc (.cells #[.bool (x2 k).b, .slice (x2 k).a (x2 k).n (x2 k).p, .int .i64 (x2 k).m.a, .int .i64 (x2 k).m.b, .int .i64 (x2 k).m.c, .int .i64 (x2 k).m.d] 130)) := (Ext.refl wr).alloc _
     have hE2 : Ext wr ((wr.alloc (.cells #[.bool (x2 k).b, .slice (x2 k).a (x2 k).n (x2 k).p, .int .i64 (x2 k).m.a, .int .i64 (x2 k).m.b, .int .i64 (x2 k).m.c, .int .i64 (x2 k).m.d] 130)).setCell ⟨wr.heap.size, 2 + j, none⟩ (.int .i64 ((x2 k).m.get (j + 1) + (q : Int)))) := hE1.set (p := ⟨wr.heap.size, 2 + j, none⟩) (Nat.le_refl _) _
     have HE3 := Lib.hid (hE2.alloc (.cells #[.bool (x2 k).b, .slice (x2 k).a (x2 k).n (x2 k).p, .int .i64 (Mo.add (x2 k).m (xp (j + 1) (q : Int))).a, .int .i64 (Mo.add (x2 k).m (xp (j + 1) (q : Int))).b, .int .i64 (Mo.add (x2 k).m (xp (j + 1) (q : Int))).c, .int .i64 (Mo.add (x2 k).m (xp (j + 1) (q : Int))).d] 130))
     have hO5 := hR'.1.ext HE3.out
     have hB5 := Blk.of_arr ((wr.alloc (.cells #[.bool (x2 k).b, .slice (x2 k).a (x2 k).n (x2 k).p, .int .i64 (x2 k).m.a, .int .i64 (x2 k).m.b, .int .i64 (x2 k).m.c, .int .i64 (x2 k).m.d] 130)).setCell ⟨wr.heap.size, 2 + j, none⟩ (.int .i64 ((x2 k).m.get (j + 1) + (q : Int)))) #[.bool (x2 k).b, .slice (x2 k).a (x2 k).n (x2 k).p, .int .i64 (Mo.add (x2 k).m (xp (j + 1) (q : Int))).a, .int .i64 (Mo.add (x2 k).m (xp (j + 1) (q : Int))).b, .int .i64 (Mo.add (x2 k).m (xp (j + 1) (q : Int))).c, .int .i64 (Mo.add (x2 k).m (xp (j + 1) (q : Int))).d] 130 6 rfl
     simp only [World.size_setCell, World.size_alloc] at hB5
     have HONE := Lib.hid (one_te ⟨(x2 k).b, (x2 k).a, (x2 k).n, (x2 k).p, Mo.add (x2 k).m (xp (j + 1) (q : Int))⟩)
     have HR' := Lib.hid hR'
     have yb := y0
     rw [← hE1.cell hbl2] at yb
     have hlt1 : wr.heap.size < (wr.alloc (.cells #[.bool (x2 k).b, .slice (x2 k).a (x2 k).n (x2 k).p, .int .i64 (x2 k).m.a, .int .i64 (x2 k).m.b, .int .i64 (x2 k).m.c, .int .i64 (x2 k).m.d] 130)).heap.size := by simp
     have hsz1 : (wr.alloc (.cells #[.bool (x2 k).b, .slice (x2 k).a (x2 k).n (x2 k).p, .int .i64 (x2 k).m.a, .int .i64 (x2 k).m.b, .int .i64 (x2 k).m.c, .int .i64 (x2 k).m.d] 130)).heap.size = wr.heap.size + 1 := by simp
     generalize hW1 : wr.alloc (.cells #[.bool (x2 k).b, .slice (x2 k).a (x2 k).n (x2 k).p, .int .i64 (x2 k).m.a, .int .i64 (x2 k).m.b, .int .i64 (x2 k).m.c, .int .i64 (x2 k).m.d] 130) = W1 at s0 s1 o0 o1 o2 o3 o4 o5 yb HE3 hO5 hB5 hlt1 hsz1
     have HW1 := Lib.hid hW1
     have HSZ1 := Lib.hid hsz1
     have hlt0 : w.heap.size < W1.heap.size := by omega
     clear hB1 hB2 hE1 hE2 hIk hR' hW1 hsz1
     go_upto_region 14 with (fail)
     rw [HW1.out]
     have hsz1 := HSZ1.out
     clear c0 c1 c2 c3 c4 c5 y0
     go_wp2_with (at_builtin; refine wpList_append_fn _ rfl (.tmp 51) (.tmp 53) _ rfl base 130 i0 _ 6 64 Tryz.underlying37 hi hz0 hz1 hz2 rfl (by omega) (.slice va n' vc) n' (tx x') rfl hO5 (wr.heap.size + 1) 130 1 (arr #[.bool (x2 k).b, .slice (x2 k).a (x2 k).n (x2 k).p, .int .i64 (Mo.add (x2 k).m (xp (j + 1) (q : Int))).a, .int .i64 (Mo.add (x2 k).m (xp (j + 1) (q : Int))).b, .int .i64 (Mo.add (x2 k).m (xp (j + 1) (q : Int))).c, .int .i64 (Mo.add (x2 k).m (xp (j + 1) (q : Int))).d]) rfl hB5 HONE.out ?p1 ?p2 ?p3 ?_)
     case p1 => unfold maxLen; omega
     case p2 => omega
     case p3 => have := HEI.out.size; simp only [World.size_alloc] at this; simp; omega
     intro gg cap2 w5 hO6 hg6 hat hlt6
     have hkp : Kp (Mf M base) wr w5 := (Kp.of_ext HE3.out).trans (Kp.grown hg6 fun g hg => .inr (HR'.out.1.lt g hg).1)
     have HF : Hid (∃ (k' n3 : Nat) (z' : Nat → Int) (x' : Nat → TE), k' ≤ n2 ∧ Value.int .i64 ((k : Int) + 1) = .int .i64 k' ∧ RowV M base w5 (.slice (some ⟨gg, 0, none⟩) (n' + 1) cap2) n3 z' x' ∧ Hid (∀ g, (Value.slice (some ⟨gg, 0, none⟩) (n' + 1) cap2).ownBlock = some g → w.heap.size + 1 ≤ g ∧ (Value.slice (some ⟨g2, 0, none⟩) n2 uc).ownBlock ≠ some g) ∧ Hid (xls n3 z' x' = poly (j + 1) q (fun i => terms d (kid i)) ++ shift (xp (j + 1) (q : Int)) (xls k' z2 x2)) ∧ Hid (RowV M base w5 (.slice (some ⟨g2, 0, none⟩) n2 uc) n2 z2 x2) ∧ Hid (Ext (w.alloc (.cells #[.int .i64 ((j : Int) + 1), .bool r.neg, .slice a r.n p, .slice (some ⟨b, off, none⟩) kn kp] 33)) w5)) := by
      refine ⟨k + 1, n' + 1, fun i => if i = n' then z2 k else z' i, fun i => if i = n' then ⟨(x2 k).b, (x2 k).a, (x2 k).n, (x2 k).p, Mo.add (x2 k).m (xp (j + 1) (q : Int))⟩ else x' i, by omega, by simp, ⟨hO6.congr (fun j' hj' => tx_app x' n' ⟨(x2 k).b, (x2 k).a, (x2 k).n, (x2 k).p, Mo.add (x2 k).m (xp (j + 1) (q : Int))⟩ j' hj'), fun i hi => ?_⟩, fun g hg => ?_, ?_, ?_, ?_⟩
      ·by_cases hin : i = n'
       ·simp only [if_pos hin]; exact HIK.out.kp hkp
       ·simp only [if_neg hin]; exact (HR'.out.2 i (by omega)).kp hkp
      ·cases hg
       rcases hat with h1 | h1
       ·exact HOV.out gg h1
       ·refine ⟨by show w.heap.size + 1 ≤ gg; omega, fun e => ?_⟩
        have e2 : g2 = gg := by simpa [Value.ownBlock] using e
        omega
      ·show _ = _
       rw [xls_app, HXV.out, xls_shift_succ, List.append_assoc]
      ·refine RowV.kp HRU.out (fun g hg => ?_) hkp
       cases hg
       have h1 : (wr.heap.size : Nat) ≤ ((W1.setCell ⟨wr.heap.size, 2 + j, none⟩ (.int .i64 ((x2 k).m.get (j + 1) + (q : Int)))).alloc (.cells #[.bool (x2 k).b, .slice (x2 k).a (x2 k).n (x2 k).p, .int .i64 (Mo.add (x2 k).m (xp (j + 1) (q : Int))).a, .int .i64 (Mo.add (x2 k).m (xp (j + 1) (q : Int))).b, .int .i64 (Mo.add (x2 k).m (xp (j + 1) (q : Int))).c, .int .i64 (Mo.add (x2 k).m (xp (j + 1) (q : Int))).d] 130)).heap.size := HE3.out.size
       exact (hg6.block _ (by have := HSZ1.out; first | omega | (simp; omega)) (fun e => (HOV.out _ e.symm).2 rfl)).trans (HE3.out.heap hu3)
      ·exact (HEI.out.trans HE3.out).grown hg6 (fun g hg => by have := (HOV.out g hg).1; simpa using this)
     clear hO6 hg6 hat hkp hO5 hB5
     go_wp2
     go_roundw
     case rel => exact HF.out
     case measure => simp [intOf]; omega
    ·have hkn' : k = n2 := by omega
     subst hkn'
     have HXF : Hid (xls n' z' x' = poly (j + 1) (q + 1) (fun i => terms d (kid i))) := by
      show _ = _
      rw [HXV.out, poly_succ, HX2.out]
     have HOF : Hid (∀ g, (Value.slice va n' vc).ownBlock = some g → w.heap.size + 1 ≤ g) := fun g hg => (HOV.out g hg).1
     go_wp2
     go_roundw
     case rel => exact ⟨q + 1, n', z', x', by omega, by go_num, hR', HOF, HXF, HEI⟩
     case measure => simp [intOf]; omega
  ·have hqk : q = kn := by omega
   subst hqk
   have HF : Hid (TermsPost M base w (poly (j + 1) q (fun i => terms d (kid i))) (.returned (.slice va n vc)) wr) := ⟨_, n, z, x, rfl, hR, fun g hg => by have := HOB.out g hg; omega, HXL.out, HEW.out⟩
   go_wp2
   go_ret
   exact HF.out
theorem rf_terms : ∀ d, TermsCtr d
 | 0 => fun _ _ _ _ _ _ _ _ _ h => h.elim
 | d + 1 => fun M base t c0 c1 c2 c3 w hb h hL hd => by
  rcases Int.lt_or_le t.1 1 with h1 | h1
  ·exact terms_leaf d M base t c0 c1 c2 c3 w hb h (.inl (by omega))
  ·rcases Int.lt_or_le 4 t.1 with h4 | h4
   ·exact terms_leaf d M base t c0 c1 c2 c3 w hb h (.inr h4)
   ·exact terms_walk d (rf_terms d) M base t c0 c1 c2 c3 w hb h hL hd ⟨h1, h4⟩
end Go.Proofs.YtjcceddloogiiaaGreat

namespace Go.Proofs.YtjcceddloogiiaaGreat
open Go.RowKit

def RfCan (L : Nat) : Prop := ∀ (M : Nat → Prop) (l : List Tm) (x : PE) (below : Int) (w : World), CRx M w L x l → x.lv < below → Calls Tryz.prog 68 #[.agg (peA x), .int .i64 below] w fun e w' => e = .returned (.bool true) ∧ Ext w w'
theorem CRx.node {M : Nat → Prop} {w : World} {L : Nat} {x : PE} {l : List Tm} (h : CRx M w L x l) (hl : x.lv ≠ 0) : ∃ (D b off : Nat) (P : Nat → List Tm), x.lv = (D : Int) + 1 ∧ D + 1 ≤ 4 ∧ D + 1 ≤ L ∧ x.b = false ∧ x.n = 0 ∧ x.ka = some ⟨b, off, none⟩ ∧ 2 ≤ x.kn ∧ x.kn ≤ 1099511627776 ∧ x.kn ≤ x.kp ∧ x.kp ≤ maxLen ∧ b < w.heap.size ∧ ¬ M b ∧ (∀ i, i < x.kn → Low D (P i)) ∧ ¬ Sim (P (x.kn - 1)) [] ∧ Sim (poly (D + 1) x.kn P) l ∧ (nrm (poly (D + 1) x.kn P) ≤ nrm l) ∧ ∀ i, i < x.kn → ∃ y, KCell w b (off + i * 4) y ∧ CRx M w D y (P i) ∧ 0 ≤ y.lv ∧ y.lv ≤ D := by
 unfold CRx at h
 obtain ⟨D, hDe, hD4, hDL, a', p', b, off, n, cap, P, hc1, hc2, hc3, hn2, hnL, hnc, hcm, hb, hMb, hkid, hlow, hnz, hsim, hnr⟩ := h.node_inv hl
 simp only [Value.bool.injEq, Value.slice.injEq] at hc1 hc2 hc3
 obtain ⟨h1, h2, h3⟩ := hc3
 refine ⟨D, b, off, P, hDe, hD4, hDL, hc1, hc2.2.1, h1, by omega, by omega, by omega, by omega, hb, hMb, fun i hi => hlow i (by omega), by rw [h2]; exact hnz, by rw [h2]; exact hsim, by rw [h2]; exact hnr, fun i hi => ?_⟩
 obtain ⟨e0, e1, e2, e3, z0, z1, z2, z3, hc⟩ := hkid i (by omega)
 obtain ⟨y, rfl, rfl, rfl, rfl, hy, h5, h6, _⟩ := hc.pe
 exact ⟨y, ⟨z0, z1, z2, z3⟩, hy, h5, h6⟩
theorem CRx.cst {M : Nat → Prop} {w : World} {L : Nat} {x : PE} {l : List Tm} (h : CRx M w L x l) (hl : x.lv = 0) : ∃ z, IntC M w (.bool x.b) (.slice x.a x.n x.p) z ∧ Sim [(z, Mo.zero)] l ∧ z.natAbs ≤ nrm l ∧ x.kn = 0 := by
 unfold CRx at h
 rw [hl] at h
 obtain ⟨z, h1, h2, h3, a, p, h4⟩ := h.const_inv
 simp only [Value.slice.injEq] at h4
 exact ⟨z, h1, h2, h3, h4.2.1⟩
theorem CRx.lev {M : Nat → Prop} {w : World} {L : Nat} {x : PE} {l : List Tm} (h : CRx M w L x l) : 0 ≤ x.lv ∧ x.lv ≤ L ∧ x.lv ≤ 4 := by
 obtain ⟨y, e0, _, _, _, _, h1, h2, h3⟩ := CR.pe h
 simp only [Value.int.injEq, true_and] at e0
 rw [e0]; exact ⟨h1, h2, h3⟩
theorem CRx.val {M : Nat → Prop} {w : World} {L : Nat} {x : PE} {l : List Tm} (h : CRx M w L x l) : ∃ z, IntV M w (.bool x.b) (.slice x.a x.n x.p) z ∧ (x.lv ≠ 0 → z = 0) ∧ (x.lv = 0 → Sim [(z, Mo.zero)] l ∧ x.kn = 0) := by
 obtain ⟨t, h1, h2, h3, h4⟩ := h
 have e : x.lv = t.1 := by have := h1.1; simpa using this
 refine ⟨t.2.1.val, h1.2.2.1.toV, fun hl => ?_, fun hl => ⟨?_, ?_⟩⟩
 ·obtain ⟨_, g2, g3, _⟩ := can_node h2 (by omega)
  unfold RawI.val sgn; rw [g2, g3]; rfl
 ·rw [terms_const (by omega)] at h4; exact h4
 ·obtain ⟨g1, _⟩ := can_const h2 (by omega)
  obtain ⟨_, _, _, ka, kp, hk⟩ := h1.form
  simp only [Value.slice.injEq] at hk
  omega
set_option maxRecDepth 100000 in
set_option maxHeartbeats 4000000 in
theorem rfcan_const (L : Nat) (M : Nat → Prop) (l : List Tm) (x : PE) (below : Int) (w : World) (h : CRx M w L x l) (hl : x.lv = 0) : Calls Tryz.prog 68 #[.agg (peA x), .int .i64 below] w fun e w' => e = .returned (.bool true) ∧ Ext w w' := by
 obtain ⟨z, hI, _, _, hkn⟩ := h.cst hl
 obtain ⟨n, d, hR, hv, hc⟩ := hI.1
 obtain ⟨lv, b, a, n', p, ka, kn, kp⟩ := x
 simp only at hl hkn hR hI
 subst hl hkn
 obtain ⟨a', p', e⟩ := natr_slice hR
 simp only [Value.slice.injEq] at e
 obtain ⟨rfl, rfl, rfl⟩ := e
 have hnL := hR.1
 by_cases h0 : n' = 0
 ·subst h0
  have hz0 : z = 0 := by have : nv d 0 = 0 := rfl; omega
  have hb : b = false := by have := hI.2; simp only [Value.bool.injEq] at this; rw [this, hz0]; rfl
  subst hb
  clear hI hR hv hc h hz0
  go_enter Tryz.func68, Tryz.ntmps68
  go_wp2
  go_ret
  exact ⟨rfl, (Ext.refl w).alloc _⟩
 ·have hd : d (n' - 1) ≠ 0 := hc.resolve_left h0
  obtain ⟨b2, off, rfl, hb1, hcell⟩ := natr_cells hR (by omega)
  obtain ⟨m, rfl⟩ : ∃ m, n' = m + 1 := ⟨n' - 1, by omega⟩
  have c0 := hcell m (by omega)
  rw [Nat.add_sub_cancel] at hd
  have hd2 : ((d m : Int) == 0) = false := by simp; omega
  have hdl : (0 : Int) < ((m + 1 : Nat) : Int) := by omega
  have hm0 : (0 : Int) ≤ (m : Int) := Int.natCast_nonneg _
  clear hI hR hv hc h hcell
  go_enter Tryz.func68, Tryz.ntmps68
  go_wp2
  go_ret
  exact ⟨rfl, (Ext.refl w).alloc _⟩
set_option maxRecDepth 100000 in
set_option maxHeartbeats 4000000 in
theorem rfcan_node (L : Nat) (ih : ∀ D, D < L → RfCan D) (M : Nat → Prop) (l : List Tm) (x : PE) (below : Int) (w : World) (h : CRx M w L x l) (hbl : x.lv < below) (hl : x.lv ≠ 0) : Calls Tryz.prog 68 #[.agg (peA x), .int .i64 below] w fun e w' => e = .returned (.bool true) ∧ Ext w w' := by
 obtain ⟨D, b, off, P, hDe, hD4, hDL, hb0, hn0, hka, hn2, hnL, hnc, hcm, hb, hMb, hlow, hnz, hsim, hnr, hkid⟩ := h.node hl
 obtain ⟨lv, bb, a, n, p, ka, kn, kp⟩ := x
 simp only at *
 subst hDe hb0 hn0 hka
 have HKD := Lib.hid hkid
 have HNZ := Lib.hid hnz
 have HIH := Lib.hid (ih D (by omega))
 have hD0 : (0 : Int) ≤ (D : Int) := Int.natCast_nonneg _
 have hDz : ((D : Int) + 1 == 0) = false := by simp; omega
 have hDn : decide ((D : Int) + 1 < 0) = false := decide_eq_false (by omega)
 have hDb : decide (below ≤ (D : Int) + 1) = false := decide_eq_false (by omega)
 have hk2 : decide (kn < 2) = false := decide_eq_false (by omega)
 have HBX := Lib.hid (Blk.of_arr w #[.int .i64 ((D : Int) + 1), .bool false, .slice a 0 p, .slice (some ⟨b, off, none⟩) kn kp] 33 4 rfl)
 have HE0 : Hid (Ext w (w.alloc (.cells #[.int .i64 ((D : Int) + 1), .bool false, .slice a 0 p, .slice (some ⟨b, off, none⟩) kn kp] 33))) := (Ext.refl w).alloc _
 clear h hlow hnz hsim hnr hkid ih hl hbl
 go_enter Tryz.func68, Tryz.ntmps68
 go_wp2
 go_loopw [6] (fun i wr => ∃ k : Nat, k ≤ kn ∧ i = .int .i64 k ∧ Hid (Ext (w.alloc (.cells #[.int .i64 ((D : Int) + 1), .bool false, .slice a 0 p, .slice (some ⟨b, off, none⟩) kn kp] 33)) wr)) (fun i _ => kn - (intOf i).toNat)
 case atStart => exact ⟨0, Nat.zero_le _, rfl, Ext.refl _⟩
 case round =>
  obtain ⟨k, hk, rfl, HER⟩ := hrel
  have hbx := HBX.out.ext HER.out
  have y0 := hbx.cell (i := 0) (by omega)
  have y3 := hbx.cell (i := 3) (by omega)
  simp only [arr] at y0 y3
  have hbl := hbx.lt
  have HEW := Lib.hid (HE0.out.trans HER.out)
  have hsz := HEW.out.size
  have hbw : b < wr.heap.size := by omega
  clear hbx
  by_cases hlt : k < kn
  ·obtain ⟨y, hcell, hy, hy0, hyD⟩ := HKD.out k hlt
   obtain ⟨k0, k1, k2, k3⟩ := hcell.ext hb HEW.out
   have CTR := Lib.hid (HIH.out M (P k) y ((D : Int) + 1) _ ((hy.ext HEW.out).ext (Ext.refl wr).drew) (by omega))
   have hk0 : (0 : Int) ≤ (k : Int) := Int.natCast_nonneg _
   have hkk : (k : Int) < (kn : Int) := by omega
   clear hcell hy
   go_wp2
   go_still_tail 7, (by kernel_rfl)
   change wpList _ _ _ _ _ wr.drew
   go_wp2_with (fail)
   refine (CTR.out).mono ?_
   rintro e w1 ⟨rfl, he⟩
   have HF := Lib.hid (HER.out.trans (((Ext.refl wr).drew).trans he))
   clear he
   go_wp2
   go_roundw
   case rel => exact ⟨k + 1, by omega, by go_num, HF⟩
   case measure => simp [intOf]; omega
  ·have hkn : k = kn := by omega
   subst hkn
   obtain ⟨m, rfl⟩ : ∃ m, k = m + 1 := ⟨k - 1, by omega⟩
   obtain ⟨y, hcell, hy, hy0, hyD⟩ := HKD.out m (by omega)
   obtain ⟨k0, k1, k2, k3⟩ := hcell.ext hb HEW.out
   have hz : isZB y.lv y.n = false := by
    cases hzb : isZB y.lv y.n
    ·rfl
    ·exact absurd ((CR.isz hy).1 hzb) HNZ.out
   have hm0 : (0 : Int) ≤ (m : Int) := Int.natCast_nonneg _
   have hcase : (decide (0 < y.lv) = true) ∨ (decide (0 < y.lv) = false ∧ decide (0 < y.n) = true) := by
    by_cases h1 : 0 < y.lv
    ·exact .inl (decide_eq_true h1)
    ·refine .inr ⟨decide_eq_false h1, decide_eq_true ?_⟩
     have h2 : y.lv = 0 := by omega
     unfold isZB at hz
     rw [h2] at hz
     simp at hz
     omega
   clear hcell hy hz
   rcases hcase with d1 | ⟨d1, d2⟩
   all_goals
    go_wp2
    go_ret
    exact ⟨rfl, HEW.out.alloc _⟩
theorem rf_canonical (L : Nat) : RfCan L := by
 induction L using Nat.strongRecOn with
 | _ L ih =>
  intro M l x below w h hb
  by_cases hl : x.lv = 0
  ·exact rfcan_const L M l x below w h hl
  ·exact rfcan_node L (fun D hD => ih D hD) M l x below w h hb hl
def EqCtr (L : Nat) : Prop := ∀ (M : Nat → Prop) (l r : List Tm) (x y : PE) (w : World), CRx M w L x l → CRx M w L y r → Calls Tryz.prog 39 #[.agg (peA x), .agg (peA y)] w fun e w' => e = .returned (.bool (simB l r)) ∧ Ext w w'
set_option maxRecDepth 100000 in
set_option maxHeartbeats 4000000 in
theorem equal_walk (L : Nat) (ih : ∀ D, D < L → EqCtr D) : EqCtr L := by
 intro M l r x y w h k
 have HSB : Hid (simB l r = true ↔ Sim l r) := simB_iff h.nn k.nn
 have HUQ : Hid (Sim l r → x.lv = y.lv ∧ x.kn = y.kn) := fun hs => CR.uniq h k hs
 have hE0 : Ext w ((w.alloc (.cells (peA x) 33)).alloc (.cells (peA y) 33)) := ((Ext.refl w).alloc _).alloc _
 by_cases hlv : ¬ x.lv = y.lv
 ·have hd : (x.lv != y.lv) = true := by simpa using hlv
  have HR : Hid (simB l r = false) := by
   cases hb : simB l r
   ·rfl
   ·exact absurd (HUQ.out (HSB.out.1 hb)).1 hlv
  clear h k hlv
  go_enter Tryz.func39, Tryz.ntmps39
  go_wp2
  go_ret
  exact ⟨by rw [HR.out]; rfl, hE0⟩
 have hlv' : x.lv = y.lv := Decidable.not_not.1 hlv
 have hd : (x.lv != y.lv) = false := by simpa using hlv'
 by_cases hn : ¬ x.kn = y.kn
 ·have hd2 : ((x.kn : Int) != (y.kn : Int)) = true := by simp; omega
  have HR : Hid (simB l r = false) := by
   cases hb : simB l r
   ·rfl
   ·exact absurd (HUQ.out (HSB.out.1 hb)).2 hn
  clear h k hn hlv hlv'
  go_enter Tryz.func39, Tryz.ntmps39
  go_wp2
  go_ret
  exact ⟨by rw [HR.out]; rfl, hE0⟩
 have hn' : x.kn = y.kn := Decidable.not_not.1 hn
 have hd2 : ((x.kn : Int) != (y.kn : Int)) = false := by simp; omega
 clear hlv hn HUQ
 obtain ⟨zx, hvx, hzx, hcx⟩ := h.val
 obtain ⟨zy, hvy, hzy, hcy⟩ := k.val
 have ctr := int_same _ _ _ _ zx zy _ (hvx.ext hE0) (hvy.ext hE0)
 have HBX := Lib.hid ((Blk.of_arr w (peA x) 33 4 rfl).alloc (.cells (peA y) 33))
 have b1 := Blk.of_arr (w.alloc (.cells (peA x) 33)) (peA y) 33 4 rfl
 simp only [World.size_alloc] at b1
 have HBY := Lib.hid b1
 have HE0 := Lib.hid hE0
 clear b1
 by_cases hzz : ¬ zx = zy
 ·have HR : Hid (simB l r = false) := by
   cases hb : simB l r
   ·rfl
   ·exfalso
    have hs := HSB.out.1 hb
    by_cases hl : x.lv = 0
    ·have := ((hcx hl).1.trans (hs.trans (hcy (by omega)).1.symm)) Mo.zero
     exact hzz (by simpa [coefAt] using this)
    ·exact hzz ((hzx hl).trans (hzy (by omega)).symm)
  rw [decide_eq_false hzz] at ctr
  have CTR := Lib.hid ctr
  clear ctr h k hvx hvy hzx hzy hcx hcy hzz hn' hlv' hE0
  go_enter Tryz.func39, Tryz.ntmps39
  go_wp2_with (fail)
  refine (CTR.out).mono ?_
  rintro e w1 ⟨rfl, he⟩
  go_wp2
  go_ret
  exact ⟨by rw [HR.out]; rfl, HE0.out.trans he⟩
 have hz' : zx = zy := Decidable.not_not.1 hzz
 rw [decide_eq_true hz'] at ctr
 have CTR := Lib.hid ctr
 have HPK : Hid (∃ (P Q : Nat → List Tm), (∀ i, i < x.kn → ∃ b off b' off' u t, x.ka = some ⟨b, off, none⟩ ∧ y.ka = some ⟨b', off', none⟩ ∧ x.kn ≤ x.kp ∧ x.kp ≤ maxLen ∧ y.kn ≤ y.kp ∧ y.kp ≤ maxLen ∧ b < w.heap.size ∧ b' < w.heap.size ∧ KCell w b (off + i * 4) u ∧ KCell w b' (off' + i * 4) t ∧
   (∀ W, Ext w W → Calls Tryz.prog 39 #[.agg (peA u), .agg (peA t)] W fun e w' => e = .returned (.bool (simB (P i) (Q i))) ∧ Ext W w') ∧ (simB (P i) (Q i) = true ↔ Sim (P i) (Q i))) ∧ ((∀ i, i < x.kn → Sim (P i) (Q i)) → Sim l r) ∧ (Sim l r → ∀ i, i < x.kn → Sim (P i) (Q i))) := by
  by_cases hl : x.lv = 0
  ·obtain ⟨h1, h2⟩ := hcx hl
   obtain ⟨h3, h4⟩ := hcy (by omega)
   refine ⟨fun _ => [], fun _ => [], fun i hi => by omega, fun _ => ?_, fun _ i hi => by omega⟩
   rw [hz'] at h1
   exact h1.symm.trans h3
  ·obtain ⟨D, b, off, P, hDe, hD4, hDL, hb0, hn0, hka, hn2, hnL, hnc, hcm, hb, hMb, hlow, hnz, hsim, hnr, hkid⟩ := h.node hl
   obtain ⟨D', b', off', Q, kDe, kD4, kDL, kb0, kn0, kka, kn2, knL, knc, kcm, kb, kMb, klow, knz, ksim, knr, kkid⟩ := k.node (by omega)
   have : D' = D := by omega
   subst this
   refine ⟨P, Q, fun i hi => ?_, fun hs => ?_, fun hs => ?_⟩
   ·obtain ⟨u, hu1, hu2, _⟩ := hkid i hi
    obtain ⟨t, ht1, ht2, _⟩ := kkid i (by omega)
    exact ⟨b, off, b', off', u, t, hka, kka, hnc, hcm, knc, kcm, hb, kb, hu1, ht1, fun W hW => ih D' (by omega) M _ _ u t W (hu2.ext hW) (ht2.ext hW), simB_iff hu2.nn ht2.nn⟩
   ·rw [hn'] at hsim hs
    exact hsim.symm.trans ((poly_congr _ _ _ _ hs).trans ksim)
   ·rw [hn'] at hsim hlow ⊢
    exact poly_inj hD4 hlow klow (hsim.trans (hs.trans ksim.symm))
 have hkL := h.kn_le
 clear ctr h k hvx hvy hzx hzy hcx hcy hzz hlv' hE0 hz' ih hd2
 obtain ⟨lv, bb, a, n, p, ka, kn, kp⟩ := x
 obtain ⟨lv', bb', a', n0', p', ka', kn', kp'⟩ := y
 simp only at *
 subst hn'
 have hd2 : ((kn : Int) != (kn : Int)) = false := by simp
 obtain ⟨P, Q, hK, hcon, hinj⟩ := HPK.out
 have HK := Lib.hid hK
 have HCON := Lib.hid hcon
 have HINJ := Lib.hid hinj
 clear hK hcon hinj HPK
 go_enter Tryz.func39, Tryz.ntmps39
 go_wp2_with (fail)
 refine (CTR.out).mono ?_
 rintro e w1 ⟨rfl, he⟩
 have HW1 := Lib.hid he
 clear he
 go_wp2
 go_loopw [5] (fun i wr => ∃ k : Nat, k ≤ kn ∧ i = .int .i64 k ∧ Hid (∀ i, i < k → Sim (P i) (Q i)) ∧ Hid (Ext w1 wr)) (fun i _ => kn - (intOf i).toNat)
 case atStart => exact ⟨0, Nat.zero_le _, rfl, (fun i hi => by omega), Ext.refl _⟩
 case round =>
  obtain ⟨k, hk, rfl, HQ, HER⟩ := hrel
  have hE1 := HW1.out.trans HER.out
  have hbx := HBX.out.ext hE1
  have hby := HBY.out.ext hE1
  have y3 := hbx.cell (i := 3) (by omega)
  have u3 := hby.cell (i := 3) (by omega)
  simp only [arr] at y3 u3
  have hl1 := hbx.lt
  have hl2 := hby.lt
  have HEW := Lib.hid (HE0.out.trans hE1)
  have hsz := HEW.out.size
  clear hbx hby hE1
  by_cases hlt : k < kn
  ·obtain ⟨b, off, b', off', u, t, rfl, rfl, hc1, hc2, hc3, hc4, hb, hb', hu, ht, hctr, hsb⟩ := HK.out k hlt
   obtain ⟨k0, k1, k2, k3⟩ := hu.ext hb HEW.out
   obtain ⟨t0, t1, t2, t3⟩ := ht.ext hb' HEW.out
   have hbw : b < wr.heap.size := by omega
   have hbw' : b' < wr.heap.size := by omega
   have hctr2 := hctr wr.drew (HEW.out.trans (Ext.refl wr).drew)
   have hk0 : (0 : Int) ≤ (k : Int) := Int.natCast_nonneg _
   have hkk : (k : Int) < (kn : Int) := by omega
   have HSK := Lib.hid hsb
   clear hctr hu ht hsb
   cases hsk : simB (P k) (Q k)
   ·rw [hsk] at hctr2
    have CT2 := Lib.hid hctr2
    have HR : Hid (simB l r = false) := by
     cases hbs : simB l r
     ·rfl
     ·have := HSK.out.2 (HINJ.out (HSB.out.1 hbs) k hlt)
      rw [hsk] at this; cases this
    clear hctr2 hsk
    go_wp2
    go_still_tail 10, (by kernel_rfl)
    change wpList _ _ _ _ _ wr.drew
    go_wp2_with (fail)
    refine (CT2.out).mono ?_
    rintro e w2 ⟨rfl, he⟩
    have HF := Lib.hid (HEW.out.trans (((Ext.refl wr).drew).trans he))
    clear he
    go_wp2
    go_ret
    exact ⟨by rw [HR.out]; rfl, HF.out⟩
   ·rw [hsk] at hctr2
    have CT2 := Lib.hid hctr2
    have HQ2 : Hid (∀ i, i < k + 1 → Sim (P i) (Q i)) := fun i hi => if h : i < k then HQ.out i h else by
     have : i = k := by omega
     subst this; exact HSK.out.1 hsk
    clear hctr2 hsk
    go_wp2
    go_still_tail 10, (by kernel_rfl)
    change wpList _ _ _ _ _ wr.drew
    go_wp2_with (fail)
    refine (CT2.out).mono ?_
    rintro e w2 ⟨rfl, he⟩
    have HF := Lib.hid (HER.out.trans (((Ext.refl wr).drew).trans he))
    clear he
    go_wp2
    go_roundw
    case rel => exact ⟨k + 1, by omega, by go_num, HQ2, HF⟩
    case measure => simp [intOf]; omega
  ·have hkn : k = kn := by omega
   subst hkn
   have HR : Hid (simB l r = true) := HSB.out.2 (HCON.out HQ.out)
   go_wp2
   go_ret
   exact ⟨by rw [HR.out]; rfl, HEW.out⟩
theorem rf_equal (L : Nat) : EqCtr L := by
 induction L using Nat.strongRecOn with
 | _ L ih => exact equal_walk L fun D hD => ih D hD
end Go.Proofs.YtjcceddloogiiaaGreat
