/- subresultant.Determinant: what its loops keep. subresultant.Determinant: the walk. Arguments of the type [][]sparse.Poly, opened; what a bound on the bulk gives. SubresultantDeterminant: the walk. -/
import Derived.Test.YtpclggidcmmemaaGreatRc
import Derived.Test.YtpclggidcmmemaaGreatDl
set_option linter.unusedVariables false
set_option linter.unusedSimpArgs false

namespace Go.Proofs.YtpclggidcmmemaaGreat
open Go.RowKit

theorem det_ok : OkB 6 4 18 := by
 simp only [OkB, inB]
 decide
theorem det_num : 32 + qX 6 4 18 * (11 + 2) ≤ 549755813888 := by
 simp only [qX, inB]
 decide
theorem sylvD {Q : Nat → Nat → List Tm} (h : EntP Q) {k : Nat} (hk : k ≤ 2) (i j : Nat) :
  Sim (pmul (detP (k + 1) (bord k i j Q)) (detP (k + 1) (bord k k k Q)) ++ pmul (pmul (detP (k + 1) (bord k i k Q)) (detP (k + 1) (bord k k j Q))) [(-1, Mo.zero)]) (pmul (detP (k + 2) (bord (k + 1) i j Q)) (detP k Q)) := by
 have nb : ∀ m k i j, NN (detP m (bord k i j Q)) := fun m k i j => nn_detP m _ (h.bord k i j).nn
 refine sim_ev (NN.append (nn_pmul (nb _ _ _ _) (nb _ _ _ _)) (nn_pmul (nn_pmul (nb _ _ _ _) (nb _ _ _ _)) (nn_one _))) (nn_pmul (nb _ _ _ _) (nn_detP k _ h.nn)) fun x => ?_
 rw [ev_append, ev_pmul x (nb _ _ _ _) (nb _ _ _ _), ev_pmul x (nn_pmul (nb _ _ _ _) (nb _ _ _ _)) (nn_one _), ev_pmul x (nb _ _ _ _) (nb _ _ _ _), ev_pmul x (nb _ _ _ _) (nn_detP k _ h.nn), ev_one, ev_bord x h, ev_bord x h, ev_bord x h, ev_bord x h, ev_bord x h, ev_detP x k _ h.nn]
 have := sylvI (fun i j => ev x (Q i j)) k i j hk
 grind
theorem BInv.rb {n : Nat} {P Q : Nat → Nat → List Tm} {k : Nat} {neg : Bool} {W : Nat → Nat → List Tm} {b : List Tm} (h : BInv n P Q k neg W b) : BInv n P Q k neg W (detP k Q) := ⟨h.ent, h.w, Sim.refl _, fun hs => h.nz (h.bb.trans hs), h.d⟩
theorem BInv.rw {n : Nat} {P Q : Nat → Nat → List Tm} {k : Nat} {neg : Bool} {W V : Nat → Nat → List Tm} {b : List Tm} (h : BInv n P Q k neg W b) (hv : ∀ i j, k ≤ i → i < n → k ≤ j → j < n → Sim (V i j) (W i j)) : BInv n P Q k neg V b := ⟨h.ent, fun i j h1 h2 h3 h4 => (hv i j h1 h2 h3 h4).trans (h.w i j h1 h2 h3 h4), h.bb, h.nz, h.d⟩
theorem minor_sz {Q : Nat → Nat → List Tm} (h : EntP Q) {m : Nat} (hm : m ≤ 4) (k i j : Nat) : NN (detP m (bord k i j Q)) ∧ Deg (m * 3) (detP m (bord k i j Q)) ∧ dlen (nrm (detP m (bord k i j Q))) ≤ 5 * m + 1 :=
 ⟨nn_detP m _ (h.bord k i j).nn, deg_detP m _ (h.bord k i j).deg (h.bord k i j).nn, det_dl (h.bord k i j) m hm⟩
def wst (k i j : Nat) (N V : Nat → Nat → List Tm) : Nat → Nat → List Tm := fun r c => if k < r ∧ k < c ∧ (r < i ∨ (r = i ∧ c < j)) then N r c else V r c
theorem wst_next (k i S : Nat) (N V : Nat → Nat → List Tm) {r c : Nat} (_hr : r < S) (hc : c < S) : Sim (wst k i S N V r c) (wst k (i + 1) (k + 1) N V r c) := by
 unfold wst
 by_cases h : k < r ∧ k < c ∧ (r < i ∨ (r = i ∧ c < S))
 ·rw [if_pos h, if_pos (by omega)]; exact Sim.refl _
 ·rw [if_neg h, if_neg (by omega)]; exact Sim.refl _
theorem wst_start (k : Nat) (N V : Nat → Nat → List Tm) (r c : Nat) : Sim (V r c) (wst k (k + 1) (k + 1) N V r c) := by
 unfold wst
 rw [if_neg (by omega)]; exact Sim.refl _
theorem wst_put (k i j : Nat) (N V : Nat → Nat → List Tm) (hi : k < i) (hj : k < j) {r c : Nat} : Sim (if r = i ∧ c = j then N i j else wst k i j N V r c) (wst k i (j + 1) N V r c) := by
 by_cases h : r = i ∧ c = j
 ·obtain ⟨rfl, rfl⟩ := h
  rw [if_pos ⟨rfl, rfl⟩]; unfold wst; rw [if_pos (by omega)]; exact Sim.refl _
 ·rw [if_neg h]
  unfold wst
  by_cases h2 : k < r ∧ k < c ∧ (r < i ∨ (r = i ∧ c < j))
  ·rw [if_pos h2, if_pos (by omega)]; exact Sim.refl _
  ·rw [if_neg h2, if_neg (by omega)]; exact Sim.refl _
theorem wst_old (k i j : Nat) (N V : Nat → Nat → List Tm) {r c : Nat} (h : r ≤ k ∨ c ≤ k ∨ (r = i ∧ j ≤ c)) : wst k i j N V r c = V r c := by
 unfold wst
 rw [if_neg (by omega)]
theorem WM.kp {MW : Nat → Prop} {w w' : World} {g S i n : Nat} {gs : Nat → Nat} {W : Nat → Nat → List Tm} (h : WM MW w g S i n gs W) (hk : Kp MW w w') (hg : w'.heap[g]? = w.heap[g]?) (hr : ∀ r, r < i → w'.heap[gs r]? = w.heap[gs r]?) : WM MW w' g S i n gs W :=
 ⟨h.blk.of_heap hg, h.mg, fun k hk2 => ⟨(h.row k hk2).1, (h.row k hk2).2.1, (h.row k hk2).2.2.kp (hr k hk2) hk⟩, h.inj⟩
structure Put9a (M' : Nat → Prop) (wd W : World) (a : Nat) (x : PE) (l : List Tm) : Prop where
 f : wd.heap.size ≤ a
 e : Ext wd W
 p : P4 W a x
 x : CRx M' W 4 x l
theorem S9.put1 {M' : Nat → Prop} {wd wk : World} {a : Nat} {x : PE} {l : List Tm} (h : S9 M' wd wk (some a) none) (hx : CRx (M9 M' (some a) none) wk 4 x l) :
  ∃ W1, W1 = set4 wk a 0 (.int .i64 x.lv) (.bool x.b) (.slice x.a x.n x.p) (.slice x.ka x.kn x.kp) ∧ Z4 wk a ∧ Fz4 wk a ∧ Put9a M' wd W1 a x l := by
 obtain ⟨hB, hw⟩ := h.a a rfl
 refine ⟨_, rfl, hB.z4, hB.fz4, hw, h.e.set4 hw _ _ _ _ _, (blk_pe4 hB x).p4, (hx.kp (Kp.set4 (.inr (.inl rfl)) _ _ _ _ _)).more fun g hg => .inl (.inl hg)⟩
structure DW (M6 : Nat → Prop) (w : World) (g0 g6 : Nat) (s : PE) (b : List Tm) (wr : World) : Prop where
 b6 : Blk wr g6 33 4 (arr (peA s))
 s : CRx M6 wr 4 s b
 b0 : Blk wr g0 33 4 (arr zA)
 m : Mb M6 wr
 e : Ext w wr
theorem DW.ext {M6 : Nat → Prop} {w : World} {g0 g6 : Nat} {s : PE} {b : List Tm} {wr w' : World} (h : DW M6 w g0 g6 s b wr) (he : Ext wr w') : DW M6 w g0 g6 s b w' := ⟨h.b6.ext he, h.s.ext he, h.b0.ext he, h.m.ext he, h.e.trans he⟩
theorem DW.kp {M6 : Nat → Prop} {w : World} {g0 g6 : Nat} {s : PE} {b : List Tm} {wr w' : World} (h : DW M6 w g0 g6 s b wr) (hk : Kp M6 wr w') (h6 : w'.heap[g6]? = wr.heap[g6]?) (h0 : w'.heap[g0]? = wr.heap[g0]?) (he : Ext w w') : DW M6 w g0 g6 s b w' := ⟨h.b6.of_heap h6, h.s.kp hk, h.b0.of_heap h0, h.m.size hk.1, he⟩
def Apart (w : World) (g0 g6 g S : Nat) (gs : Nat → Nat) : Prop := (g ≠ g0 ∧ g ≠ g6 ∧ w.heap.size ≤ g) ∧ ∀ r, r < S → gs r ≠ g0 ∧ gs r ≠ g6 ∧ w.heap.size ≤ gs r
theorem Apart.swap {w : World} {g0 g6 g S k p : Nat} {gs : Nat → Nat} (h : Apart w g0 g6 g S gs) (hk : k < S) (hp : p < S) : Apart w g0 g6 g S (fun r => gs (xch k p r)) := ⟨h.1, fun r hr => h.2 _ (by unfold xch; split <;> (try split) <;> omega)⟩
def RetDt (M : Nat → Prop) (w : World) (S : Nat) (c : Nat → Nat) (P : Nat → Nat → List Tm) (e : Ending) (w' : World) : Prop := ∃ (d : PE) (er : Int), e = .returned (.tuple #[.agg (peA d), .int .i64 er]) ∧ ((mx c S ≠ S ∧ er = 1 ∧ d = PE.z) ∨ (mx c S = S ∧ er = 0 ∧ CRx M w' 4 d (detP S (zx c P)))) ∧ Ext w w'
theorem peA_inj {x y : PE} (h : peA x = peA y) : x = y := by
 cases x; cases y
 simp [peA] at h
 simp [h]
theorem RetX.cr {M : Nat → Prop} {w w' : World} {L : Nat} {l : List Tm} {y : PE} (h : RetX M w L l (.returned (.agg (peA y))) w') : CRx M w' L y l ∧ Ext w w' := by
 obtain ⟨y', e, h1, h2⟩ := h
 simp only [Ending.returned.injEq, Value.agg.injEq] at e
 rw [peA_inj e]; exact ⟨h1, h2⟩
theorem RetX.sim {M : Nat → Prop} {w w' : World} {L : Nat} {l r : List Tm} {e : Ending} (h : RetX M w L l e w') (hs : Sim l r) : RetX M w L r e w' := by
 obtain ⟨y', e, h1, h2⟩ := h
 exact ⟨y', e, h1.sim hs, h2⟩
def SDa (g i k j gi gk S : Nat) (y1 y2 y3 y4 : PE) (w : World) : Prop := (w.cell? ⟨g, i, none⟩ = some (.slice (some ⟨gi, 0, none⟩) S S) ∧ w.cell? ⟨g, k, none⟩ = some (.slice (some ⟨gk, 0, none⟩) S S)) ∧ KCell w gi (j * 4) y1 ∧ KCell w gk (k * 4) y2 ∧ KCell w gi (k * 4) y3 ∧ KCell w gk (j * 4) y4
theorem kc_ext {w w' : World} {b o : Nat} {x : PE} (h : KCell w b o x) (he : Ext w w') : KCell w' b o x := h.ext (World.block_lt_of_cell? _ _ h.1) he
theorem SDa.ext {g i k j gi gk S : Nat} {y1 y2 y3 y4 : PE} {w w' : World} (h : SDa g i k j gi gk S y1 y2 y3 y4 w) (he : Ext w w') : SDa g i k j gi gk S y1 y2 y3 y4 w' := by
 have hl := World.block_lt_of_cell? _ _ h.1.1
 exact ⟨⟨by rw [he.cell hl]; exact h.1.1, by rw [he.cell hl]; exact h.1.2⟩, kc_ext h.2.1 he, kc_ext h.2.2.1 he, kc_ext h.2.2.2.1 he, kc_ext h.2.2.2.2 he⟩
def DCut (M6 : Nat → Prop) (l : List Tm) (wd : World) (s13 : Value) (wx : World) : Prop := ∃ (a : Nat) (v : PE), s13 = .pointer (some ⟨a, 0, none⟩) ∧ Put9a M6 wd wx a v l
def SDb (g i gi S g13 g6 : Nat) (v s : PE) (w : World) : Prop := w.cell? ⟨g, i, none⟩ = some (.slice (some ⟨gi, 0, none⟩) S S) ∧ P4 w g13 v ∧ P4 w g6 s
theorem SDb.ext {g i gi S g13 g6 : Nat} {v s : PE} {w w' : World} (h : SDb g i gi S g13 g6 v s w) (he : Ext w w') : SDb g i gi S g13 g6 v s w' := ⟨by rw [he.cell (World.block_lt_of_cell? _ _ h.1)]; exact h.1, h.2.1.ext he, h.2.2.ext he⟩
end Go.Proofs.YtpclggidcmmemaaGreat

namespace Go.Proofs.YtpclggidcmmemaaGreat
open Go.RowKit

set_option maxRecDepth 100000 in
set_option maxHeartbeats 32000000 in
theorem sr_Determinant (M : Nat → Prop) (w : World) (v : Value) (S : Nat) (c : Nat → Nat) (P : Nat → Nat → List Tm) (hM : Mb M w) (h : MRow M w v S c P) (hS : S ≤ 4) (hc : ∀ k, k < S → c k ≤ 100) (hE : EntP (zx c P)) : Calls Tryz.prog 18 #[v] w (RetDt M w S c P) := by
 have hEb := (Ext.refl w).alloc (.cells zA 33)
 have hB := Blk.of_arr w zA 33 4 rfl
 have hM2 : Mb (Mx M w.heap.size (w.heap.size + 1)) (w.alloc (.cells zA 33)) := Mx.mb hM (by simp) (by simp)
 have hR2 := (h.more (M' := Mx M w.heap.size (w.heap.size + 1)) (Mx.more (Nat.le_refl _))).ext hEb
 obtain ⟨va, vc, rfl⟩ : ∃ va vc, v = .slice va S vc := by
  obtain ⟨a, cap, rv, e, _⟩ := h
  exact ⟨a, cap, e⟩
 have HENT := Lib.hid hE
 have HS := Lib.hid hS
 have HC := Lib.hid hc
 clear hM h hc hS hE
 go_enter Tryz.func18, Tryz.ntmps18
 go_upto_region 1 with (fail)
 generalize hW : w.alloc (.cells zA 33) = W at *
 obtain ⟨g0, hg0⟩ : ∃ g0, g0 = w.heap.size := ⟨_, rfl⟩
 rw [← hg0] at hB hM2 hR2 ⊢
 have HG : Hid (w.heap.size ≤ g0) := by show w.heap.size ≤ g0; omega
 have HE := Lib.hid hEb
 have HM := Lib.hid hM2
 have HB := Lib.hid hB
 have CS := Lib.hid (sr_square _ W (.slice va S vc) S c P hM2 hR2 (by have := HS.out; omega) HC.out)
 clear hg0 hW hM2 hEb hB hR2
 go_wp2_with (fail)
 refine CS.out.mono ?_
 rintro e w1 hsq
 rcases hsq with ⟨hne, rfl, he1⟩ | ⟨heq, g, gs, MW, rfl, hWM, hs1, hs2, hmb, hgs, hgg, he1⟩
 ·obtain ⟨⟨q0, q1, q2, q3⟩, ⟨f0, f1, f2, f3⟩, ⟨r0, r1, r2, r3⟩, HF⟩ := retX (M := M) (w := w) (L := 4) (l := []) (y := PE.z) (M' := Mx M g0 (g0 + 1)) (HB.out.ext he1) (Mx.at (by omega)) HG.out (HE.out.trans he1) (CR.zero _ _ 4) Mx.sub
  simp only [PE.z] at r0 r1 r2 r3 q0 q1 q2 q3 HF
  have HX : Hid (Ext w ((((w1.setCell ⟨g0, 0, none⟩ (.int .i64 0)).setCell ⟨g0, 1, none⟩ (.bool false)).setCell ⟨g0, 2, none⟩ (.slice none 0 0)).setCell ⟨g0, 3, none⟩ (.slice none 0 0))) := by
   obtain ⟨_, _, _, h3⟩ := HF.out
   exact h3
  have HNE := Lib.hid hne
  clear HF he1 hne CS HE HM HB
  go_wp2
  exact bodyPost_ret (v := .tuple #[.agg (peA PE.z), .int .i64 1]) (by simp [results, Tryz.results18, go_sem, r0, r1, r2, r3, PE.z]) rfl ⟨PE.z, 1, rfl, .inl ⟨HNE.out, rfl, rfl⟩, HX.out⟩
 have HWM := Lib.hid hWM
 have HMW : Hid ((∀ b, Mx M g0 (g0 + 1) b → MW b) ∧ (∀ b, MW b → Mx M g0 (g0 + 1) b ∨ W.heap.size ≤ b)) := ⟨hs1, hs2⟩
 have HMB := Lib.hid hmb
 have HGS : Hid ((∀ r, r < S → W.heap.size ≤ gs r) ∧ W.heap.size ≤ g) := ⟨hgs, hgg⟩
 have HEQ := Lib.hid heq
 have HE1 := Lib.hid (HE.out.trans he1)
 have HB1 := Lib.hid (HB.out.ext he1)
 have HGW : Hid (g0 < W.heap.size) := HB.out.lt
 have HSW : Hid (w.heap.size ≤ W.heap.size) := HE.out.size
 have hSI : (S : Int) ≤ 4 := by have := HS.out; omega
 have hS0 : (0 : Int) ≤ (S : Int) := Int.natCast_nonneg _
 clear hWM hs1 hs2 hmb hgs hgg heq he1 CS HE HB HM
 go_wp2_with (fail)
 refine (int_of (M := MW) 1 w1 HMB.out (by omega) (by omega)).mono ?_
 rintro e w2 ⟨z0, z1, rfl, hI, e2⟩
 obtain ⟨ib, ia, ik, ip, rfl, rfl⟩ := hI.form
 have CC := Lib.hid (rp_Const MW ib ia ik ip 1 w2 (HMB.out.ext e2) hI.toV)
 have HE2 := Lib.hid e2
 clear hI e2
 go_wp2_with (fail)
 refine CC.out.mono ?_
 rintro e w3 ⟨s, rfl, hs, e3⟩
 have hE3 : Ext w1 (w3.alloc (.cells #[.int .i64 s.lv, .bool s.b, .slice s.a s.n s.p, .slice s.ka s.kn s.kp] 33)) := (HE2.out.trans e3).alloc _
 have hB6 : Blk (w3.alloc (.cells #[.int .i64 s.lv, .bool s.b, .slice s.a s.n s.p, .slice s.ka s.kn s.kp] 33)) w3.heap.size 33 4 (arr (peA s)) := Blk.of_arr w3 (peA s) 33 4 rfl
 have hM6 : Mb (fun b => MW b ∨ b = w3.heap.size) (w3.alloc (.cells #[.int .i64 s.lv, .bool s.b, .slice s.a s.n s.p, .slice s.ka s.kn s.kp] 33)) := mb_ins (HMB.out.ext hE3) hB6.lt
 have hS6 : CRx (fun b => MW b ∨ b = w3.heap.size) (w3.alloc (.cells #[.int .i64 s.lv, .bool s.b, .slice s.a s.n s.p, .slice s.ka s.kn s.kp] 33)) 4 s (detP 0 (zx c P)) := (((hs.up (by omega))).more fun b hb => hb.imp id fun h => by omega).ext ((Ext.refl w3).alloc _)
 have hWM6 : WM (fun b => MW b ∨ b = w3.heap.size) (w3.alloc (.cells #[.int .i64 s.lv, .bool s.b, .slice s.a s.n s.p, .slice s.ka s.kn s.kp] 33)) g S S S gs (zx c P) := ((HWM.out.ext (HE2.out.trans e3)).more (MW' := fun b => MW b ∨ b = w3.heap.size) (fun b hb => .inl hb) fun b hb => hb.imp id fun h => by omega).ext ((Ext.refl w3).alloc _)
 have hsz : w1.heap.size ≤ w3.heap.size := (HE2.out.trans e3).size
 go_upto_region 5 with (fail)
 obtain ⟨W3, hW3⟩ : ∃ W3, W3 = w3.alloc (.cells #[.int .i64 s.lv, .bool s.b, .slice s.a s.n s.p, .slice s.ka s.kn s.kp] 33) := ⟨_, rfl⟩
 rw [← hW3] at hE3 hB6 hM6 hS6 hWM6 ⊢
 obtain ⟨g6, hg6⟩ : ∃ g6, g6 = w3.heap.size := ⟨_, rfl⟩
 rw [← hg6] at hB6 hM6 hS6 hWM6 hsz ⊢
 obtain ⟨M6, hM6e⟩ : ∃ M6 : Nat → Prop, M6 = fun b => MW b ∨ b = g6 := ⟨_, rfl⟩
 rw [← hM6e] at hM6 hS6 hWM6
 have HAP : Hid (Apart w g0 g6 g S gs) := ⟨⟨by have := HGS.out.2; have := HGW.out; omega, by have := HWM.out.blk.lt; omega, Nat.le_trans HSW.out HGS.out.2⟩, fun r hr => ⟨by have := HGS.out.1 r hr; have := HGW.out; omega, by have := (HWM.out.row r hr).2.2.lt; omega, Nat.le_trans HSW.out (HGS.out.1 r hr)⟩⟩
 have HM6 : Hid (M6 g6 ∧ M6 g0 ∧ (∀ b, M b → M6 b) ∧ g6 ≠ g0 ∧ w.heap.size ≤ g6) := ⟨by rw [hM6e]; exact .inr rfl, by rw [hM6e]; exact .inl (HMW.out.1 _ (Mx.at (by omega))), fun b hb => by rw [hM6e]; exact .inl (HMW.out.1 _ (.inl hb)), by have := HB1.out.lt; omega, by have := HE1.out.size; omega⟩
 have HDW : Hid (DW M6 w g0 g6 s (detP 0 (zx c P)) W3) := ⟨hB6, hS6, HB1.out.ext hE3, hM6, HE1.out.trans hE3⟩
 have HWM6 := Lib.hid hWM6
 have HST : Hid (BInv S (zx c P) (zx c P) 0 false (zx c P) (detP 0 (zx c P))) := BInv.start HENT.out
 obtain ⟨Z, hZ⟩ : ∃ Z, Z = zx c P := ⟨_, rfl⟩
 rw [← hZ] at HDW HWM6 HST
 have HZ : Hid (Z = zx c P) := hZ
 clear hW3 hg6 hM6e hE3 hB6 hM6 hS6 hWM6 hsz hs e3 HE2 HB1 HE1 CC HWM HMB HGS HGW HSW HMW hZ HENT
 go_wp2
 go_loopw [26, 7] (fun iv nv wr => ∃ (k : Nat) (neg : Bool) (gs : Nat → Nat) (V Q : Nat → Nat → List Tm) (s : PE), k ≤ S ∧ iv = .int .i64 (k : Int) ∧ nv = .bool neg ∧ Hid (WM M6 wr g S S S gs V) ∧ Hid (BInv S Z Q k neg V (detP k Q)) ∧ Hid (DW M6 w g0 g6 s (detP k Q) wr) ∧ Hid (Apart w g0 g6 g S gs)) (fun iv _ _ => S - (intOf iv).toNat)
 case atStart => exact ⟨0, false, gs, Z, Z, s, Nat.zero_le _, rfl, rfl, HWM6.out, HST.out, HDW.out, HAP.out⟩
 case round =>
  clear HWM6 HST HDW HAP
  obtain ⟨k, neg, gs, V, Q, s, hk, rfl, rfl, HW, HI, HD, HA⟩ := hrel
  have hk0 : (0 : Int) ≤ (k : Int) := Int.natCast_nonneg _
  by_cases hlt : k < S
  ·have hltI : (k : Int) < (S : Int) := by omega
   have HLT := Lib.hid hlt
   have CP := Lib.hid (sr_pivot M6 wr g S k gs V HD.out.m HW.out hlt (by have := HS.out; omega))
   clear hlt hk
   go_wp2_with (fail)
   refine CP.out.mono ?_
   rintro e w1 hpv
   rcases hpv with ⟨p, x, hkp, hpS, hnz, hx, rfl, hWp, hon, hex⟩ | ⟨hz, rfl, e1⟩
   rotate_left
   ·focus
     have hd0 : Sim (detP S (zx c P)) [] := by rw [← HZ.out]; exact HI.out.zero HS.out HLT.out hz
     have hD1 := HD.out.ext e1
     obtain ⟨⟨q0, q1, q2, q3⟩, ⟨f0, f1, f2, f3⟩, ⟨r0, r1, r2, r3⟩, HF⟩ := retX (M := M) (w := w) (L := 4) (l := detP S (zx c P)) (y := PE.z) (M' := M6) hD1.b0 HM6.out.2.1 HG.out hD1.e (CRx.sim (CR.zero _ _ 4) hd0.symm) HM6.out.2.2.1
     simp only [PE.z] at r0 r1 r2 r3 q0 q1 q2 q3 HF
     have HX : Hid (RetDt M w S c P (.returned (.tuple #[.agg (peA PE.z), .int .i64 0])) ((((w1.setCell ⟨g0, 0, none⟩ (.int .i64 0)).setCell ⟨g0, 1, none⟩ (.bool false)).setCell ⟨g0, 2, none⟩ (.slice none 0 0)).setCell ⟨g0, 3, none⟩ (.slice none 0 0))) := ⟨PE.z, 0, rfl, .inr ⟨HEQ.out, rfl, (RetX.cr (y := PE.z) HF.out).1⟩, (RetX.cr (y := PE.z) HF.out).2⟩
     clear HF hD1 hd0 hz e1 HW HI HD HA CP
     go_wp2
     exact bodyPost_ret (v := .tuple #[.agg (peA PE.z), .int .i64 0]) (by simp [results, Tryz.results18, go_sem, r0, r1, r2, r3, PE.z]) rfl HX.out
   have hkp6 : Kp M6 wr w1 := ⟨hon.1, fun b hb hn => hon.2 b hb fun e => hn (e ▸ HW.out.mg)⟩
   have hdw := HD.out.kp hkp6 (hon.2 g6 HD.out.b6.lt fun e => HA.out.1.2.1 e.symm) (hon.2 g0 HD.out.b0.lt fun e => HA.out.1.1 e.symm) (hex w HD.out.e HA.out.1.2.2)
   have hap := HA.out.swap HLT.out hpS
   obtain ⟨Q', neg', hneg, hbi⟩ : ∃ (Q' : Nat → Nat → List Tm) (neg' : Bool), (neg != x) = neg' ∧ BInv S Z Q' k neg' (fun r => V (xch k p r)) (detP k Q) := by
    cases x with
    | false =>
     have hpk : p = k := Classical.byContradiction fun h => absurd (hx.2 h) (by decide)
     subst hpk
     exact ⟨Q, neg, by cases neg <;> rfl, HI.out.rw fun i j _ _ _ _ => by
      have : xch p p i = i := by unfold xch; split <;> omega
      rw [this]; exact Sim.refl _⟩
    | true => exact ⟨_, _, by cases neg <;> rfl, HI.out.swap HS.out (by have := hx.1 rfl; omega) hpS⟩
   have HD1 : Hid (DW M6 w g0 g6 s (detP k Q') w1) := ⟨hdw.b6, hdw.s.sim hbi.bb, hdw.b0, hdw.m, hdw.e⟩
   have HI1 := Lib.hid hbi.rb
   have HW1 := Lib.hid hWp
   have HA1 := Lib.hid hap
   have HNEG := Lib.hid hneg
   have HNZ : Hid (¬ Sim ((fun r => V (xch k p r)) k k) []) := by
    show ¬ Sim (V (xch k p k) k) []
    have : xch k p k = p := by unfold xch; rw [if_pos rfl]
    rw [this]; exact hnz
   clear hkp6 hdw hap hbi hWp hon hex hnz hx hkp hpS HW HI HD HA CP hneg
   obtain ⟨gt, hgt⟩ : ∃ gt : Nat → Nat, gt = fun r => gs (xch k p r) := ⟨_, rfl⟩
   obtain ⟨U, hU⟩ : ∃ U : Nat → Nat → List Tm, U = fun r => V (xch k p r) := ⟨_, rfl⟩
   rw [← hgt] at HW1 HA1
   rw [← hU] at HW1 HI1 HNZ
   obtain ⟨NN', hNN⟩ : ∃ NN' : Nat → Nat → List Tm, NN' = fun i j => detP (k + 2) (bord (k + 1) i j Q') := ⟨_, rfl⟩
   have HNN := Lib.hid hNN
   clear hgt hU hNN
   have HW2 : Hid (WM M6 w1 g S S S gt (wst k (k + 1) (k + 1) NN' U)) := HW1.out.congr fun r c _ _ => wst_start k NN' U r c
   go_wp2
   go_loopw [11] (fun iv wi => ∃ i : Nat, k + 1 ≤ i ∧ i ≤ S ∧ iv = .int .i64 (i : Int) ∧ Hid (WM M6 wi g S S S gt (wst k i (k + 1) NN' U)) ∧ Hid (DW M6 w g0 g6 s (detP k Q') wi)) (fun iv _ => S - (intOf iv).toNat)
   case atStart => exact ⟨k + 1, Nat.le_refl _, HLT.out, by go_num, HW2.out, HD1.out⟩
   case round =>
    clear HW1 HW2 HD1
    obtain ⟨i, hki, hi, rfl, HWI, HDI⟩ := hrel
    have hi0 : (0 : Int) ≤ (i : Int) := Int.natCast_nonneg _
    by_cases hil : i < S
    ·have hilI : (i : Int) < (S : Int) := by omega
     have HKI : Hid (k < i ∧ i < S) := ⟨hki, hil⟩
     clear hki hi hil
     go_wp2
     go_loopw [12] (fun jv wi => ∃ j : Nat, k + 1 ≤ j ∧ j ≤ S ∧ jv = .int .i64 (j : Int) ∧ Hid (WM M6 wi g S S S gt (wst k i j NN' U)) ∧ Hid (DW M6 w g0 g6 s (detP k Q') wi)) (fun iv _ => S - (intOf iv).toNat)
     case atStart => exact ⟨k + 1, Nat.le_refl _, HLT.out, by go_num, HWI.out, HDI.out⟩
     case round =>
      clear HWI HDI
      obtain ⟨j, hkj, hj, rfl, HWJ, HDJ⟩ := hrel
      have hj0 : (0 : Int) ≤ (j : Int) := Int.natCast_nonneg _
      by_cases hjl : j < S
      ·have hjlI : (j : Int) < (S : Int) := by omega
       have HKJ : Hid (k < j ∧ j < S) := ⟨hkj, hjl⟩
       clear hkj hj hjl
       have HK2 : Hid (k ≤ 2) := by have := HKI.out; have := HS.out; show k ≤ 2; omega
       go_upto_region 19 with (fail)
       go_cut [13] (DCut M6 (pmul (NN' i j) (detP k Q')) wr.drew)
       case first =>
        have hWD := HWJ.out.ext (Ext.refl wr).drew
        have hDD := HDJ.out.ext (Ext.refl wr).drew
        obtain ⟨a1, y1, k1, c1⟩ := hWD.cel (k := i) (j := j) HKI.out.2 (Nat.le_refl _) HKJ.out.2
        obtain ⟨a2, y2, k2, c2⟩ := hWD.cel (k := k) (j := k) HLT.out (Nat.le_refl _) HLT.out
        obtain ⟨_, y3, k3, c3⟩ := hWD.cel (k := i) (j := k) HKI.out.2 (Nat.le_refl _) HLT.out
        obtain ⟨_, y4, k4, c4⟩ := hWD.cel (k := k) (j := j) HLT.out (Nat.le_refl _) HKJ.out.2
        rw [wst_old _ _ _ _ _ (by omega)] at c1 c2 c3 c4
        have c1 := c1.sim (HI1.out.w i j (by have := HKI.out; omega) HKI.out.2 (by have := HKJ.out; omega) HKJ.out.2)
        have c2 := c2.sim (HI1.out.w k k (Nat.le_refl _) HLT.out (Nat.le_refl _) HLT.out)
        have c3 := c3.sim (HI1.out.w i k (by have := HKI.out; omega) HKI.out.2 (Nat.le_refl _) HLT.out)
        have c4 := c4.sim (HI1.out.w k j (Nat.le_refl _) HLT.out (by have := HKJ.out; omega) HKJ.out.2)
        have z1 := minor_sz HI1.out.ent (m := k + 1) (by have := HK2.out; omega) k i j
        have z2 := minor_sz HI1.out.ent (m := k + 1) (by have := HK2.out; omega) k k k
        have z3 := minor_sz HI1.out.ent (m := k + 1) (by have := HK2.out; omega) k i k
        have z4 := minor_sz HI1.out.ent (m := k + 1) (by have := HK2.out; omega) k k j
        have hsy := sylvD HI1.out.ent HK2.out i j
        have hnn : NN' i j = detP (k + 2) (bord (k + 1) i j Q') := by rw [HNN.out]
        rw [← hnn] at hsy
        generalize detP (k + 1) (bord k i j Q') = L1 at *
        generalize detP (k + 1) (bord k k k Q') = L2 at *
        generalize detP (k + 1) (bord k i k Q') = L3 at *
        generalize detP (k + 1) (bord k k j Q') = L4 at *
        have hkb := HK2.out
        have d12 : dlen (nrm L1) + dlen (nrm L2) ≤ 32 := by have := z1.2.2; have := z2.2.2; omega
        have d34 : dlen (nrm L3) + dlen (nrm L4) ≤ 32 := by have := z3.2.2; have := z4.2.2; omega
        have p34 : dlen (nrm (pmul L3 L4)) ≤ 32 := by rw [nrm_pmul]; exact Nat.le_trans (dlen_mul _ _) d34
        have p12 : dlen (nrm (pmul L1 L2)) ≤ 32 := by rw [nrm_pmul]; exact Nat.le_trans (dlen_mul _ _) d12
        have C14 : Hid (∀ A B W, S9 M6 wr.drew W A B → Calls Tryz.prog 58 #[.agg (peA y1), .agg (peA y2)] W (RetX (M9 M6 A B) W 4 (pmul L1 L2))) := fun A B W h => rp_Mul _ y1 y2 L1 L2 9 9 W h.mb ((c1.more h.sub).ext h.e).pi ((c2.more h.sub).ext h.e).pi (Nat.le_trans d12 (by decide)) (z1.2.1.mono (by omega)) (z2.2.1.mono (by omega)) (by decide)
        have C29 : Hid (∀ A B W, S9 M6 wr.drew W A B → Calls Tryz.prog 58 #[.agg (peA y3), .agg (peA y4)] W (RetX (M9 M6 A B) W 4 (pmul L3 L4))) := fun A B W h => rp_Mul _ y3 y4 L3 L4 9 9 W h.mb ((c3.more h.sub).ext h.e).pi ((c4.more h.sub).ext h.e).pi (Nat.le_trans d34 (by decide)) (z3.2.1.mono (by omega)) (z4.2.1.mono (by omega)) (by decide)
        have C30 : Hid (∀ A B W, S9 M6 wr.drew W A B → ∀ p, CRx (M9 M6 A B) W 4 p (pmul L1 L2) → ∀ q, CRx (M9 M6 A B) W 4 q (pmul L3 L4) → Calls Tryz.prog 57 #[.agg (peA p), .agg (peA q)] W (RetX (M9 M6 A B) W 4 (pmul (NN' i j) (detP k Q')))) := fun A B W h p hp q hq => (rp_Sub _ p q _ _ 18 W h.mb hp.pi hq.pi (by rw [nrm_append]; refine Nat.le_trans (dlen_add _ _) ?_; have h3 := dlen_mul (nrm (pmul L3 L4)) (nrm [((-1 : Int), Mo.zero)]); rw [← nrm_pmul] at h3; have h4 : dlen (nrm [((-1 : Int), Mo.zero)]) = 1 := rfl; show _ ≤ 1099511627776; omega) (Nat.le_trans (Nat.succ_le_succ p34) (by decide)) ((z3.2.1.pmul z4.2.1 z3.1).mono (by omega)) (by decide)).mono fun e w' h => h.sim hsy
        have S0 := S9.start hDD.m
        have HSa : Hid (SDa g i k j (gt i) (gt k) S y1 y2 y3 y4 wr.drew) := ⟨⟨a1, a2⟩, k1, k2, k3, k4⟩
        clear a1 a2 k1 k2 k3 k4 c1 c2 c3 c4 z1 z2 z3 z4 hsy hnn d12 d34 p34 p12 hWD hDD HWJ HDJ hkb
        refine wp_region_u (SDa g i k j (gt i) (gt k) S y1 y2 y3 y4) 32 (by kernel_rfl) HSa.out (fun hHeld => ?_)
        generalize wr.drew = wd at *
        (refine tkB [0, 1, 2, 3, 4, 5, 6, 7, 8, 9, 10, 11, 12, 13, 15, 16, 17, 18, 19, 20, 21, 22, 23, 24, 25, 26, 27, 28] ?_; (iterate 28 (refine tk1 (oi := ?_) (v := ?_) (by kernel_rfl) (by first | exact hSn | exact hHeld) ?_ ?_ ?_ ?_ ?_; rotate_left 2; (simp only [xgA, xgB, xgC]; rfl); rfl; (intro wS hSw; obtain ⟨⟨A0, A1⟩, ⟨B0, B1, B2, B3⟩, ⟨C0, C1, C2, C3⟩, ⟨D0, D1, D2, D3⟩, E0, E1, E2, E3⟩ := hSw; go_simp; try with_reducible rfl); (exact fun _ _ _ h => h); (try simp only [Act.put, xgD, xgE, xgF]))); refine tkE ?_)
        (refine wpAnyU_two 14 31 (oi := ?_) (oj := ?_) (by kernel_rfl) ?_ ?_ ?_ ?_; rotate_left 2; (simp only [xgA, xgB, xgC]; rfl); (simp only [xgA, xgB, xgC]; rfl); all_goals intro K hK)
        ·go_simp
         refine (C14.out _ _ wd S0).mono ?_
         rintro e v1 ⟨p, rfl, hp, D⟩
         go_wp2_with (fail)
         have S1 := S0.call D
         clear D
         try clear hSn
         have hSn := hHeld.ext S1.e
         refine hK.out _ _ (fun _ => hSn) ?_
         clear hK K
         (try simp only [Act.put, xgD, xgE, xgF])
         (refine wpAnyU_two 29 31 (oi := ?_) (oj := ?_) (by kernel_rfl) ?_ ?_ ?_ ?_; rotate_left 2; (simp only [xgA, xgB, xgC]; rfl); (simp only [xgA, xgB, xgC]; rfl); all_goals intro K hK)
         ·go_simp
          refine (C29.out _ _ v1 S1).mono ?_
          rintro e v2 ⟨q, rfl, hq, D⟩
          go_wp2_with (fail)
          have S2 := S1.call D
          replace hp := hp.ext D
          clear D
          try clear hSn
          have hSn := hHeld.ext S2.e
          refine hK.out _ _ (fun _ => hSn) ?_
          clear hK K
          (try simp only [Act.put, xgD, xgE, xgF])
          (refine wpAnyU_two 30 31 (oi := ?_) (oj := ?_) (by kernel_rfl) ?_ ?_ ?_ ?_; rotate_left 2; (simp only [xgA, xgB, xgC]; rfl); (simp only [xgA, xgB, xgC]; rfl); all_goals intro K hK)
          ·go_simp
           refine (C30.out _ _ v2 S2 _ hp _ hq).mono ?_
           rintro e v3 ⟨v, rfl, hv, D⟩
           go_wp2_with (fail)
           have S3 := S2.call D
           replace hp := hp.ext D
           replace hq := hq.ext D
           clear D
           try clear hSn
           have hSn := hHeld.ext S3.e
           refine hK.out _ _ (fun _ => hSn) ?_
           clear hK K
           (try simp only [Act.put, xgD, xgE, xgF])
           (refine wpAnyU_one 31 (o := ?_) (by kernel_rfl) ?_ ?_; rotate_left 1; (simp only [xgA, xgB, xgC]; rfl); intro K hK)
           go_simp
           have S4 := S3.allA
           replace hp := S3.keepA hp
           replace hq := S3.keepA hq
           replace hv := S3.keepA hv
           try clear hSn
           have hSn := hHeld.ext S4.e
           refine hK.out _ _ (fun _ => hSn) ?_
           clear hK K
           (try simp only [Act.put, xgD, xgE, xgF])
           generalize v3.alloc (.cells zA 33) = v4 at *
           generalize v3.heap.size = g4 at *
           obtain ⟨W1, hW1, ⟨q0, q1, q2, q3⟩, ⟨f0, f1, f2, f3⟩, HP2⟩ := S4.put1 hv
           unfold set4 at hW1
           have hSn1 := hHeld.ext HP2.e
           clear hSn
           (refine wpAnyU_one 32 (o := ?_) (by kernel_rfl) ?_ ?_; rotate_left 1; (simp only [xgA, xgB, xgC]; rfl); intro K hK)
           go_simp
           rw [← hW1]
           clear hW1
           refine hK.out _ _ (fun _ => hSn1) ?_
           clear hK K q0 q1 q2 q3 f0 f1 f2 f3
           (try simp only [Act.put, xgD, xgE, xgF])
           refine wpAnyU_done (by kernel_rfl) ?_ _
           go_wp2_with (fail)
           go_meet
           exact ⟨_, _, rfl, HP2⟩
          ·go_simp
           have S5 := S2.allA
           replace hp := S2.keepA hp
           replace hq := S2.keepA hq
           try clear hSn
           have hSn := hHeld.ext S5.e
           refine hK.out _ _ (fun _ => hSn) ?_
           clear hK K
           (try simp only [Act.put, xgD, xgE, xgF])
           generalize v2.alloc (.cells zA 33) = v5 at *
           generalize v2.heap.size = g5 at *
           (refine wpAnyU_one 30 (o := ?_) (by kernel_rfl) ?_ ?_; rotate_left 1; (simp only [xgA, xgB, xgC]; rfl); intro K hK)
           go_simp
           refine (C30.out _ _ v5 S5 _ hp _ hq).mono ?_
           rintro e v6 ⟨v, rfl, hv, D⟩
           go_wp2_with (fail)
           have S6 := S5.call D
           replace hp := hp.ext D
           replace hq := hq.ext D
           clear D
           try clear hSn
           have hSn := hHeld.ext S6.e
           refine hK.out _ _ (fun _ => hSn) ?_
           clear hK K
           (try simp only [Act.put, xgD, xgE, xgF])
           obtain ⟨W1, hW1, ⟨q0, q1, q2, q3⟩, ⟨f0, f1, f2, f3⟩, HP2⟩ := S6.put1 hv
           unfold set4 at hW1
           have hSn1 := hHeld.ext HP2.e
           clear hSn
           (refine wpAnyU_one 32 (o := ?_) (by kernel_rfl) ?_ ?_; rotate_left 1; (simp only [xgA, xgB, xgC]; rfl); intro K hK)
           go_simp
           rw [← hW1]
           clear hW1
           refine hK.out _ _ (fun _ => hSn1) ?_
           clear hK K q0 q1 q2 q3 f0 f1 f2 f3
           (try simp only [Act.put, xgD, xgE, xgF])
           refine wpAnyU_done (by kernel_rfl) ?_ _
           go_wp2_with (fail)
           go_meet
           exact ⟨_, _, rfl, HP2⟩
         ·go_simp
          have S7 := S1.allA
          replace hp := S1.keepA hp
          try clear hSn
          have hSn := hHeld.ext S7.e
          refine hK.out _ _ (fun _ => hSn) ?_
          clear hK K
          (try simp only [Act.put, xgD, xgE, xgF])
          generalize v1.alloc (.cells zA 33) = v7 at *
          generalize v1.heap.size = g7 at *
          (refine wpAnyU_one 29 (o := ?_) (by kernel_rfl) ?_ ?_; rotate_left 1; (simp only [xgA, xgB, xgC]; rfl); intro K hK)
          go_simp
          refine (C29.out _ _ v7 S7).mono ?_
          rintro e v8 ⟨q, rfl, hq, D⟩
          go_wp2_with (fail)
          have S8 := S7.call D
          replace hp := hp.ext D
          clear D
          try clear hSn
          have hSn := hHeld.ext S8.e
          refine hK.out _ _ (fun _ => hSn) ?_
          clear hK K
          (try simp only [Act.put, xgD, xgE, xgF])
          (refine wpAnyU_one 30 (o := ?_) (by kernel_rfl) ?_ ?_; rotate_left 1; (simp only [xgA, xgB, xgC]; rfl); intro K hK)
          go_simp
          refine (C30.out _ _ v8 S8 _ hp _ hq).mono ?_
          rintro e v9 ⟨v, rfl, hv, D⟩
          go_wp2_with (fail)
          have S9 := S8.call D
          replace hp := hp.ext D
          replace hq := hq.ext D
          clear D
          try clear hSn
          have hSn := hHeld.ext S9.e
          refine hK.out _ _ (fun _ => hSn) ?_
          clear hK K
          (try simp only [Act.put, xgD, xgE, xgF])
          obtain ⟨W1, hW1, ⟨q0, q1, q2, q3⟩, ⟨f0, f1, f2, f3⟩, HP2⟩ := S9.put1 hv
          unfold set4 at hW1
          have hSn1 := hHeld.ext HP2.e
          clear hSn
          (refine wpAnyU_one 32 (o := ?_) (by kernel_rfl) ?_ ?_; rotate_left 1; (simp only [xgA, xgB, xgC]; rfl); intro K hK)
          go_simp
          rw [← hW1]
          clear hW1
          refine hK.out _ _ (fun _ => hSn1) ?_
          clear hK K q0 q1 q2 q3 f0 f1 f2 f3
          (try simp only [Act.put, xgD, xgE, xgF])
          refine wpAnyU_done (by kernel_rfl) ?_ _
          go_wp2_with (fail)
          go_meet
          exact ⟨_, _, rfl, HP2⟩
        ·go_simp
         have S10 := S0.allA
         try clear hSn
         have hSn := hHeld.ext S10.e
         refine hK.out _ _ (fun _ => hSn) ?_
         clear hK K
         (try simp only [Act.put, xgD, xgE, xgF])
         generalize wd.alloc (.cells zA 33) = v10 at *
         generalize wd.heap.size = g10 at *
         (refine wpAnyU_one 14 (o := ?_) (by kernel_rfl) ?_ ?_; rotate_left 1; (simp only [xgA, xgB, xgC]; rfl); intro K hK)
         go_simp
         refine (C14.out _ _ v10 S10).mono ?_
         rintro e v11 ⟨p, rfl, hp, D⟩
         go_wp2_with (fail)
         have S11 := S10.call D
         clear D
         try clear hSn
         have hSn := hHeld.ext S11.e
         refine hK.out _ _ (fun _ => hSn) ?_
         clear hK K
         (try simp only [Act.put, xgD, xgE, xgF])
         (refine wpAnyU_one 29 (o := ?_) (by kernel_rfl) ?_ ?_; rotate_left 1; (simp only [xgA, xgB, xgC]; rfl); intro K hK)
         go_simp
         refine (C29.out _ _ v11 S11).mono ?_
         rintro e v12 ⟨q, rfl, hq, D⟩
         go_wp2_with (fail)
         have S12 := S11.call D
         replace hp := hp.ext D
         clear D
         try clear hSn
         have hSn := hHeld.ext S12.e
         refine hK.out _ _ (fun _ => hSn) ?_
         clear hK K
         (try simp only [Act.put, xgD, xgE, xgF])
         (refine wpAnyU_one 30 (o := ?_) (by kernel_rfl) ?_ ?_; rotate_left 1; (simp only [xgA, xgB, xgC]; rfl); intro K hK)
         go_simp
         refine (C30.out _ _ v12 S12 _ hp _ hq).mono ?_
         rintro e v13 ⟨v, rfl, hv, D⟩
         go_wp2_with (fail)
         have S13 := S12.call D
         replace hp := hp.ext D
         replace hq := hq.ext D
         clear D
         try clear hSn
         have hSn := hHeld.ext S13.e
         refine hK.out _ _ (fun _ => hSn) ?_
         clear hK K
         (try simp only [Act.put, xgD, xgE, xgF])
         obtain ⟨W1, hW1, ⟨q0, q1, q2, q3⟩, ⟨f0, f1, f2, f3⟩, HP2⟩ := S13.put1 hv
         unfold set4 at hW1
         have hSn1 := hHeld.ext HP2.e
         clear hSn
         (refine wpAnyU_one 32 (o := ?_) (by kernel_rfl) ?_ ?_; rotate_left 1; (simp only [xgA, xgB, xgC]; rfl); intro K hK)
         go_simp
         rw [← hW1]
         clear hW1
         refine hK.out _ _ (fun _ => hSn1) ?_
         clear hK K q0 q1 q2 q3 f0 f1 f2 f3
         (try simp only [Act.put, xgD, xgE, xgF])
         refine wpAnyU_done (by kernel_rfl) ?_ _
         go_wp2_with (fail)
         go_meet
         exact ⟨_, _, rfl, HP2⟩
       case rest =>
        obtain ⟨ga, v, rfl, hput⟩ := hcut
        have hXW : Ext wr wc := (Ext.refl wr).drew.trans hput.e
        have hWC := HWJ.out.ext hXW
        have hDC := HDJ.out.ext hXW
        have hga : wr.heap.size ≤ ga := hput.f
        have hnn : NN' i j = detP (k + 2) (bord (k + 1) i j Q') := by rw [HNN.out]
        have zN := minor_sz HI1.out.ent (m := k + 2) (by have := HK2.out; omega) (k + 1) i j
        rw [← hnn] at zN
        have zb : Deg (k * 3) (detP k Q') ∧ dlen (nrm (detP k Q')) ≤ 5 * k + 1 ∧ NN (detP k Q') := ⟨deg_detP k _ HI1.out.ent.deg HI1.out.ent.nn, det_dl HI1.out.ent k (by have := HK2.out; omega), nn_detP k _ HI1.out.ent.nn⟩
        have hkb := HK2.out
        have CE : Hid (∀ W, Ext wc W → Calls Tryz.prog 30 #[.agg (peA v), .agg (peA s)] W fun e w' => ∃ u : PE, e = .returned (.tuple #[.agg (peA u), .int .i64 0]) ∧ CRx M6 w' 4 u (NN' i j) ∧ Ext W w') := fun W he => (ps_Exact 6 11 M6 (pmul (NN' i j) (detP k Q')) (detP k Q') v s 18 32 W (hDC.m.ext he) (hput.x.ext he).pi (hDC.s.ext he).pi ((zN.2.1.pmul zb.1 zN.1).mono (by omega)) (zb.1.mono (by omega)) (by rw [nrm_pmul]; refine Nat.le_trans (dlen_mul _ _) ?_; have := zN.2.2; have := zb.2.1; omega) (by have := zb.2.1; omega) det_ok det_num).mono fun e w' h => by
         obtain ⟨u, er, rfl, hcase, hex⟩ := ex_prod zN.1 zb.2.2 h
         rcases hcase with ⟨_, h1, _⟩ | ⟨rfl, _, h2⟩
         ·exact absurd h1 HI1.out.nz
         ·exact ⟨u, rfl, h2, hex⟩
        have HSb : Hid (SDb g i (gt i) S ga g6 v s wc.drew) := SDb.ext ⟨by rw [hWC.blk.cell HKI.out.2, if_pos HKI.out.2], hput.p, hDC.b6.p4⟩ (Ext.refl wc).drew
        have HWC := Lib.hid (hWC.ext (Ext.refl wc).drew)
        have HDC := Lib.hid (hDC.ext (Ext.refl wc).drew)
        have HXC : Hid (Ext wc wc.drew) := (Ext.refl wc).drew
        have HNEQ : Hid (ga ≠ gt i ∧ gt i ≠ g6 ∧ gt i ≠ g0 ∧ w.heap.size ≤ gt i ∧ gt i ≠ g) := ⟨by have := (HWJ.out.row i HKI.out.2).2.2.lt; omega, (HA1.out.2 i HKI.out.2).2.1, (HA1.out.2 i HKI.out.2).1, (HA1.out.2 i HKI.out.2).2.2, (HWJ.out.row i HKI.out.2).1⟩
        clear hput hXW hWC hDC hga hnn zN zb hkb HWJ HDJ
        go_upto_region 20 with (fail)
        refine wp_region_u (SDb g i (gt i) S ga g6 v s) 13 (by kernel_rfl) HSb.out (fun hHeld => ?_)
        generalize wc.drew = wd at *
        (refine tkB [0, 1, 2, 3, 4, 5, 6] ?_; (iterate 7 (refine tk1 (oi := ?_) (v := ?_) (by kernel_rfl) (by first | exact hSn | exact hHeld) ?_ ?_ ?_ ?_ ?_; rotate_left 2; (simp only [xgA, xgB, xgC]; rfl); rfl; (intro wS hSw; obtain ⟨A0, ⟨B0, B1, B2, B3⟩, C0, C1, C2, C3⟩ := hSw; go_simp; try with_reducible rfl); (exact fun _ _ _ h => h); (try simp only [Act.put, xgD, xgE, xgF]))); refine tkE ?_)
        ((refine wpAnyU_one 7 (o := ?_) (by kernel_rfl) ?_ ?_; rotate_left 1; (simp only [xgA, xgB, xgC]; rfl); intro K hK); go_simp; (refine (CE.out wd HXC.out).mono ?_); rintro e_ w4 ⟨u, rfl, hu, e1⟩; go_wp2_with (fail); (try clear hSn); (have hSn := hHeld.ext e1); (refine hK.out _ _ (fun _ => hSn) ?_); clear hK K; (try simp only [Act.put, xgD, xgE, xgF]))
        (refine tkB [8, 9, 10, 11] ?_; (iterate 4 (refine tk1 (oi := ?_) (v := ?_) (by kernel_rfl) (by first | exact hSn | exact hHeld) ?_ ?_ ?_ ?_ ?_; rotate_left 2; (simp only [xgA, xgB, xgC]; rfl); rfl; (intro wS hSw; obtain ⟨A0, ⟨B0, B1, B2, B3⟩, C0, C1, C2, C3⟩ := hSw; go_simp; try with_reducible rfl); (exact fun _ _ _ h => h); (try simp only [Act.put, xgD, xgE, xgF]))); refine tkE ?_)
        have hW4 := HWC.out.ext e1
        have hD4 := HDC.out.ext e1
        have hrow := hW4.row i HKI.out.2
        obtain ⟨⟨_, q0⟩, ⟨_, q1⟩, ⟨_, q2⟩, ⟨_, q3⟩, hfz, hgl8⟩ := hrow.2.2.at j HKJ.out.2
        have f0 := hfz (j * 4)
        have f1 := hfz (j * 4 + 1)
        have f2 := hfz (j * 4 + 2)
        have f3 := hfz (j * 4 + 3)
        have hW5 := (hW4.set (k := i) (j := j) HKI.out.2 HKJ.out.2 hu).congr (V := wst k i (j + 1) NN' U) fun r c _ _ => wst_put k i j NN' U HKI.out.1 HKJ.out.1
        have hh := fun b => heap_set4 w4 (gt i) (j * 4) (.int .i64 u.lv) (.bool u.b) (.slice u.a u.n u.p) (.slice u.ka u.kn u.kp) b
        have hD5 := hD4.kp (Kp.set4 hrow.2.1 (j * 4) (.int .i64 u.lv) (.bool u.b) (.slice u.a u.n u.p) (.slice u.ka u.kn u.kp)) (hh g6 (fun e => HNEQ.out.2.1 e.symm)) (hh g0 (fun e => HNEQ.out.2.2.1 e.symm)) (hD4.e.set4 HNEQ.out.2.2.2.1 _ _ _ _ _)
        have hS5 : SDb g i (gt i) S ga g6 v s (set4 w4 (gt i) (j * 4) (.int .i64 u.lv) (.bool u.b) (.slice u.a u.n u.p) (.slice u.ka u.kn u.kp)) := by
         have hSn4 := hHeld.ext e1
         exact ⟨by rw [hW5.blk.cell HKI.out.2, if_pos HKI.out.2], p4_of_heap hSn4.2.1 (hh ga HNEQ.out.1), hD5.b6.p4⟩
        obtain ⟨W5, hW5e⟩ : ∃ W5, W5 = set4 w4 (gt i) (j * 4) (.int .i64 u.lv) (.bool u.b) (.slice u.a u.n u.p) (.slice u.ka u.kn u.kp) := ⟨_, rfl⟩
        rw [← hW5e] at hW5 hD5 hS5
        unfold set4 at hW5e
        have HW5e := Lib.hid hW5e
        have HW5 := Lib.hid hW5
        have HD5 := Lib.hid hD5
        clear hW4 hD4 hrow hfz hgl8 hW5 hD5 hW5e hh hu e1 HWC HDC CE HSb HXC
        (refine wpAnyU_one 12 (o := ?_) (by kernel_rfl) ?_ ?_; rotate_left 1; (simp only [xgA, xgB, xgC]; rfl); intro K hK)
        go_simp
        rw [← HW5e.out]
        clear HW5e q0 q1 q2 q3 f0 f1 f2 f3 hSn
        refine hK.out _ _ (fun _ => hS5) ?_
        clear hK K
        (try simp only [Act.put, xgD, xgE, xgF])
        refine wpAnyU_done (by kernel_rfl) ?_ _
        clear hHeld hS5 HNEQ
        go_wp2
        go_roundw
        case rel => exact ⟨j + 1, by have := HKJ.out; omega, by have := HKJ.out; omega, by go_num, HW5.out, HD5.out⟩
        case measure => have := HKJ.out; simp [intOf]; omega
      ·obtain rfl : j = S := by omega
       have hge : ¬ (j : Int) < (j : Int) := by omega
       have HWN : Hid (WM M6 wr g j j j gt (wst k (i + 1) (k + 1) NN' U)) := HWJ.out.congr fun r c hr hc => wst_next k i j NN' U hr hc
       clear HWJ
       go_wp2
       go_roundw
       case rel => exact ⟨i + 1, by have := HKI.out; omega, by have := HKI.out; omega, by go_num, HWN.out, HDJ.out⟩
       case measure => have := HKI.out; simp [intOf]; omega
    ·obtain rfl : i = S := by omega
     have hge : ¬ (i : Int) < (i : Int) := by omega
     obtain ⟨hck, y, ⟨y0, y1, y2, y3⟩, hy⟩ := HWI.out.cel (k := k) (j := k) HLT.out (Nat.le_refl _) HLT.out
     rw [wst_old _ _ _ _ _ (by omega)] at hy
     have hbi := (HI1.out.next (W' := wst k i (k + 1) NN' U) HLT.out HNZ.out (fun r c h1 h2 h3 h4 => by
      unfold wst
      rw [if_pos (by omega), HNN.out]; exact Sim.refl _))
     have hB6 := HDI.out.b6
     have hfz := hB6.frozen
     obtain ⟨q0, q1, q2, q3⟩ := hB6.p4
     have f0 := hfz 0
     have f1 := hfz 1
     have f2 := hfz 2
     have f3 := hfz 3
     have hkp : Kp M6 wr (set4 wr g6 0 (.int .i64 y.lv) (.bool y.b) (.slice y.a y.n y.p) (.slice y.ka y.kn y.kp)) := Kp.set4 HM6.out.1 _ _ _ _ _
     have hh := fun b => heap_set4 wr g6 0 (.int .i64 y.lv) (.bool y.b) (.slice y.a y.n y.p) (.slice y.ka y.kn y.kp) b
     have hD9 : DW M6 w g0 g6 y (detP (k + 1) Q') (set4 wr g6 0 (.int .i64 y.lv) (.bool y.b) (.slice y.a y.n y.p) (.slice y.ka y.kn y.kp)) := ⟨blk_pe4 hB6 y, (hy.sim hbi.bb).kp hkp, HDI.out.b0.of_heap (hh g0 (fun e => HM6.out.2.2.2.1 e.symm)), HDI.out.m.size hkp.1, HDI.out.e.set4 HM6.out.2.2.2.2 _ _ _ _ _⟩
     have hW9 := HWI.out.kp hkp (hh g HA1.out.1.2.1) fun r hr => hh (gt r) (HA1.out.2 r hr).2.1
     obtain ⟨W9, hW9e⟩ : ∃ W9, W9 = set4 wr g6 0 (.int .i64 y.lv) (.bool y.b) (.slice y.a y.n y.p) (.slice y.ka y.kn y.kp) := ⟨_, rfl⟩
     rw [← hW9e] at hD9 hW9
     unfold set4 at hW9e
     have HW9e := Lib.hid hW9e
     have HD9 := Lib.hid hD9
     have HW9 := Lib.hid hW9
     have HBI := Lib.hid hbi.rb
     clear hD9 hW9 hW9e hkp hh hB6 hfz hy hbi HWI HDI
     go_wp2
     rw [← HW9e.out]
     clear HW9e q0 q1 q2 q3 f0 f1 f2 f3 y0 y1 y2 y3 hck
     go_roundw
     case rel => exact ⟨k + 1, neg', gt, _, Q', y, HLT.out, by go_num, by first | exact congrArg Value.bool HNEG.out | (rw [← HNEG.out]; rfl), HW9.out, HBI.out, HD9.out, HA1.out⟩
     case measure => have := HLT.out; simp [intOf]; omega
  ·obtain rfl : k = S := by omega
   have hge : ¬ (k : Int) < (k : Int) := by omega
   have hfin := HI.out.fin
   rw [HZ.out] at hfin
   have hb6 := HD.out.b6
   have zb : Deg 12 (detP k Q) ∧ dlen (nrm (detP k Q)) ≤ 21 := ⟨(deg_detP k _ HI.out.ent.deg HI.out.ent.nn).mono (by have := HS.out; omega), Nat.le_trans (det_dl HI.out.ent k HS.out) (by have := HS.out; omega)⟩
   obtain ⟨x0, x1, x2, x3⟩ := hb6.p4
   cases neg with
   | true =>
    have CN := Lib.hid ((rp_Neg M6 s _ 12 wr HD.out.m HD.out.s.pi (Nat.le_trans (Nat.succ_le_succ zb.2) (by decide)) zb.1 (by decide)).mono fun e w' h => h.sim (r := detP k (zx c P)) (by
     refine Sim.trans ?_ hfin.symm
     have h := pmul_single (detP k Q) ((-1 : Int), Mo.zero)
     rw [shift_zero] at h
     rw [if_pos rfl]; exact h))
    clear hfin zb hb6
    go_wp2_with (fail)
    refine CN.out.mono ?_
    rintro e w8 ⟨d, rfl, hd, e8⟩
    obtain ⟨⟨q0, q1, q2, q3⟩, ⟨f0, f1, f2, f3⟩, ⟨r0, r1, r2, r3⟩, HF⟩ := retX (M := M) (w := w) (L := 4) (l := detP k (zx c P)) (y := d) (M' := M6) (HD.out.b0.ext e8) HM6.out.2.1 HG.out (HD.out.e.trans e8) hd HM6.out.2.2.1
    have HX : Hid (RetDt M w k c P (.returned (.tuple #[.agg (peA d), .int .i64 0])) ((((w8.setCell ⟨g0, 0, none⟩ (.int .i64 d.lv)).setCell ⟨g0, 1, none⟩ (.bool d.b)).setCell ⟨g0, 2, none⟩ (.slice d.a d.n d.p)).setCell ⟨g0, 3, none⟩ (.slice d.ka d.kn d.kp))) := ⟨d, 0, rfl, .inr ⟨HEQ.out, rfl, (RetX.cr HF.out).1⟩, (RetX.cr HF.out).2⟩
    clear HF hd e8 HD HW HI HA CN
    go_wp2
    exact bodyPost_ret (v := .tuple #[.agg (peA d), .int .i64 0]) (by simp [results, Tryz.results18, go_sem, r0, r1, r2, r3]) rfl HX.out
   | false =>
    have CN := Lib.hid ((rp_Normal M6 s _ wr HD.out.m HD.out.s.pi).mono fun e w' h => RetX.sim (r := detP k (zx c P)) h (by
     refine Sim.trans ?_ hfin.symm
     rw [if_neg (by decide)]
     exact fun m => by rw [coefAt_smul]; omega))
    clear hfin zb hb6
    go_wp2_with (fail)
    refine CN.out.mono ?_
    rintro e w8 ⟨d, rfl, hd, e8⟩
    obtain ⟨⟨q0, q1, q2, q3⟩, ⟨f0, f1, f2, f3⟩, ⟨r0, r1, r2, r3⟩, HF⟩ := retX (M := M) (w := w) (L := 4) (l := detP k (zx c P)) (y := d) (M' := M6) (HD.out.b0.ext e8) HM6.out.2.1 HG.out (HD.out.e.trans e8) hd HM6.out.2.2.1
    have HX : Hid (RetDt M w k c P (.returned (.tuple #[.agg (peA d), .int .i64 0])) ((((w8.setCell ⟨g0, 0, none⟩ (.int .i64 d.lv)).setCell ⟨g0, 1, none⟩ (.bool d.b)).setCell ⟨g0, 2, none⟩ (.slice d.a d.n d.p)).setCell ⟨g0, 3, none⟩ (.slice d.ka d.kn d.kp))) := ⟨d, 0, rfl, .inr ⟨HEQ.out, rfl, (RetX.cr HF.out).1⟩, (RetX.cr HF.out).2⟩
    clear HF hd e8 HD HW HI HA CN
    go_wp2
    exact bodyPost_ret (v := .tuple #[.agg (peA d), .int .i64 0]) (by simp [results, Tryz.results18, go_sem, r0, r1, r2, r3]) rfl HX.out
end Go.Proofs.YtpclggidcmmemaaGreat

namespace Go.Proofs.YtpclggidcmmemaaGreat
open Go.ChangeShapes Go.WideShapes Go.ChangeAt Go.RowKit Go.Deep

section
variable {H : Type} {enc : TypeId × Value → H} {W : World}
theorem bulk_one (d : DataW H) : 1 ≤ Rows.uptoBulk d := by
 cases d with
 | lit l => cases l <;> simp [Rows.uptoBulk]
 | nil => simp [Rows.uptoBulk]
 | ptr d => simp [Rows.uptoBulk]
 | slice elems spare => simp [Rows.uptoBulk]
 | agg parts => simp [Rows.uptoBulk]
 | iface t d => simp [Rows.uptoBulk]
 | map entries => simp [Rows.uptoBulk]
 | held h => simp [Rows.uptoBulk]
theorem bulk_part {d : DataW H} {l : List (DataW H)} (h : d ∈ l) : Rows.uptoBulk d ≤ Rows.uptoBulkAll l := by
 induction l with
 | nil => cases h
 | cons x r ih =>
  simp only [Rows.uptoBulkAll]
  cases List.mem_cons.1 h with
  | inl e => subst e; omega
  | inr e => have := ih e; omega
theorem bulk_length (l : List (DataW H)) : l.length ≤ Rows.uptoBulkAll l := by
 induction l with
 | nil => simp [Rows.uptoBulkAll]
 | cons x r ih => have := bulk_one x; simp only [Rows.uptoBulkAll, List.length_cons]; omega
theorem bulk_slice (elems spare : List (DataW H)) : Rows.uptoBulkAll elems ≤ Rows.uptoBulk (.slice elems spare) := by
 simp only [Rows.uptoBulk]
 omega
set_option maxRecDepth 10000 in
theorem open_polysI {fuel : Nat} {v : Value} {x : DataW H × List MemPlace} (h : DataW.trod enc Tryz.prog W 0 (fun _ => true) true fuel 50 [v] = some x) : ∃ a n cap Y, v = .slice a n cap ∧ PsRaw W a n cap Y ∧ n ≤ Rows.uptoBulk x.1 := by
 have hu : Tryz.prog.underlying 50 = some (.slice 23) := Tryz.underlying50
 have hc1 : Tryz.prog.cellsOf 23 = 1 := by kernel_rfl
 rcases open_slice hu h with ⟨h0, _⟩ | ⟨a, len, cap, m, n, D, Pl, hcs, hb, hl, hm, hmm, hx, hi⟩
 ·simp only [List.cons.injEq, and_true] at h0
  exact ⟨none, 0, 0, fun _ => default, h0, ⟨Nat.le_refl _, Nat.zero_le _, fun i hi => by omega⟩, Nat.zero_le _⟩
 ·simp only [List.cons.injEq, and_true] at hcs
  have hm2 : len ≤ m := by rw [hmm, if_pos rfl]; exact hl
  rw [hc1] at hi
  have hbk : len ≤ Rows.uptoBulk x.1 := by
   rw [hx]
   have h1 := bulk_length ((List.range len).map D)
   rw [List.length_map, List.length_range] at h1
   exact Nat.le_trans h1 (bulk_slice _ _)
  have hsp0 : 0 < len → a.spot = none ∧ a.block < W.heap.size := fun h0 => by
   obtain ⟨cs', h1, h2⟩ := hi 0 (by omega)
   obtain ⟨_, hlen, hat⟩ := World.cells?_some h1
   match cs', hlen with
   | [u0], _ =>
    have c0 : W.cell? ((a.add (0 * 1)).add 0) = some u0 := hat 0 (by omega)
    rw [Nat.zero_mul, addr_zero, addr_zero] at c0
    exact ⟨World.cell?_spot c0, World.block_lt_of_cell? _ _ c0⟩
  have hall : ∀ i, ∃ y : SE, i < len → ∃ b off, a = ⟨b, off, none⟩ ∧ b < W.heap.size ∧ W.cell? ⟨b, off + i, none⟩ = some (.slice y.a y.n y.p) ∧ ∃ X, PRaw W y.a y.n y.p X := by
   intro i
   by_cases hil : i < len
   ·obtain ⟨cs', h1, h2⟩ := hi i (by omega)
    obtain ⟨_, hlen, hat⟩ := World.cells?_some h1
    match cs', hlen with
    | [u0], _ =>
     have c0 : W.cell? ((a.add (i * 1)).add 0) = some u0 := hat 0 (by omega)
     rw [Nat.mul_one, addr_zero] at c0
     obtain ⟨a', n', p', X, rfl, hX⟩ := open_polyI h2
     obtain ⟨hsp, hblk⟩ := hsp0 (by omega)
     obtain ⟨b, off, sp⟩ := a
     simp only at hsp hblk
     subst hsp
     rw [addr_add] at c0
     exact ⟨⟨a', n', p', []⟩, fun _ => ⟨b, off, rfl, hblk, c0, X, hX⟩⟩
   ·exact ⟨default, fun h => absurd h hil⟩
  refine ⟨some a, len, cap, fun i => (hall i).choose, hcs, ⟨hl, hm, fun i hi => ?_⟩, hbk⟩
  obtain ⟨b, off, e, r⟩ := (hall i).choose_spec hi
  exact ⟨b, off, by rw [e], r⟩
def PsRaw2 (W : World) (a : Option Addr) (n cap B : Nat) (R : Nat → SE) : Prop := n ≤ cap ∧ cap ≤ maxLen ∧ ∀ i, i < n → ∃ b off, a = some ⟨b, off, none⟩ ∧ b < W.heap.size ∧ W.cell? ⟨b, off + i, none⟩ = some (.slice (R i).a (R i).n (R i).p) ∧ (R i).n ≤ B ∧ ∃ Y, PsRaw W (R i).a (R i).n (R i).p Y
set_option maxRecDepth 10000 in
theorem open_polyss {base : Nat} {v : Value} {d : DataW H} {ps : List MemPlace} (hv : Value.okWide Tryz.prog W .any base 49 v) (h : DataW.Trod enc Tryz.prog W 0 (fun _ => true) true 49 v d ps) : ∃ a n cap R, v = .slice a n cap ∧ PsRaw2 W a n cap (Rows.uptoBulk d) R := by
 obtain ⟨fuel, h⟩ := h
 have hu : Tryz.prog.underlying 49 = some (.slice 50) := Tryz.underlying49
 have hc1 : Tryz.prog.cellsOf 50 = 1 := by kernel_rfl
 have hv1 : v.cells.toList = [v] := by
  obtain ⟨a, n, c, rfl⟩ := okWide_slice hu hv
  rfl
 rw [hv1] at h
 rcases open_slice hu h with ⟨h0, _⟩ | ⟨a, len, cap, m, n, D, Pl, hcs, hb, hl, hm, hmm, hx, hi⟩
 ·simp only [List.cons.injEq, and_true] at h0
  exact ⟨none, 0, 0, fun _ => default, h0, Nat.le_refl _, Nat.zero_le _, fun i hi => by omega⟩
 ·simp only [List.cons.injEq, and_true] at hcs
  have hm2 : len ≤ m := by rw [hmm, if_pos rfl]; exact hl
  rw [hc1] at hi
  have hbk : ∀ i, i < len → Rows.uptoBulk (D i) ≤ Rows.uptoBulk d := fun i hil => by
   have hd : d = .slice ((List.range len).map D) ((List.range (m - len)).map fun j => D (len + j)) := congrArg Prod.fst hx
   rw [hd]
   exact Nat.le_trans (bulk_part (List.mem_map.2 ⟨i, List.mem_range.2 hil, rfl⟩)) (bulk_slice _ _)
  have hsp0 : 0 < len → a.spot = none ∧ a.block < W.heap.size := fun h0 => by
   obtain ⟨cs', h1, h2⟩ := hi 0 (by omega)
   obtain ⟨_, hlen, hat⟩ := World.cells?_some h1
   match cs', hlen with
   | [u0], _ =>
    have c0 : W.cell? ((a.add (0 * 1)).add 0) = some u0 := hat 0 (by omega)
    rw [Nat.zero_mul, addr_zero, addr_zero] at c0
    exact ⟨World.cell?_spot c0, World.block_lt_of_cell? _ _ c0⟩
  have hall : ∀ i, ∃ y : SE, i < len → ∃ b off, a = ⟨b, off, none⟩ ∧ b < W.heap.size ∧ W.cell? ⟨b, off + i, none⟩ = some (.slice y.a y.n y.p) ∧ y.n ≤ Rows.uptoBulk d ∧ ∃ Y, PsRaw W y.a y.n y.p Y := by
   intro i
   by_cases hil : i < len
   ·obtain ⟨cs', h1, h2⟩ := hi i (by omega)
    obtain ⟨_, hlen, hat⟩ := World.cells?_some h1
    match cs', hlen with
    | [u0], _ =>
     have c0 : W.cell? ((a.add (i * 1)).add 0) = some u0 := hat 0 (by omega)
     rw [Nat.mul_one, addr_zero] at c0
     obtain ⟨a', n', p', Y, rfl, hY, hn⟩ := open_polysI h2
     obtain ⟨hsp, hblk⟩ := hsp0 (by omega)
     obtain ⟨b, off, sp⟩ := a
     simp only at hsp hblk
     subst hsp
     rw [addr_add] at c0
     exact ⟨⟨a', n', p', []⟩, fun _ => ⟨b, off, rfl, hblk, c0, Nat.le_trans hn (hbk i hil), Y, hY⟩⟩
   ·exact ⟨default, fun h => absurd h hil⟩
  refine ⟨some a, len, cap, fun i => (hall i).choose, hcs, hl, hm, fun i hi => ?_⟩
  obtain ⟨b, off, e, r⟩ := (hall i).choose_spec hi
  exact ⟨b, off, by rw [e], r⟩
end
end Go.Proofs.YtpclggidcmmemaaGreat

namespace Go.Proofs.YtpclggidcmmemaaGreat
open Go.RowKit

def Ent1 (l : List Tm) : Prop := NN l ∧ Deg 3 l ∧ dlen (nrm l) ≤ 5
theorem PRowF.krow {M : Nat → Prop} {base : Nat} {w : World} {v : Value} {n : Nat} {P : Nat → List Tm} (h : PRowF M base w v n P) (hM : ∀ g, base ≤ g → ¬ M g) (hn : n ≤ 1000000) : KRow M w 4 v n P := by
 obtain ⟨xx, h1, h2⟩ := h
 exact Own.toK h1 (fun i hi => (h2 i hi).more fun b hb => .inl (.inl hb)) hM (by omega)
theorem KRow.grown {M : Nat → Prop} {wa wb : World} {v u : Value} {gg n cap N : Nat} {P : Nat → List Tm} (hP : KRow (MR M v) wa 4 u N P) (hg : wa.grownBy wb v.ownBlock) (hat : v.ownBlock = some gg ∨ wa.heap.size ≤ gg) : KRow (MR M (.slice (some ⟨gg, 0, none⟩) n cap)) wb 4 u N P := by
 have h1 := hP.more (M' := fun b => MR M v b ∨ b = gg) (fun b hb => hb.elim .inl fun e => by
  rcases hat with h | h
  ·exact .inl (.inr (by rw [h, e]))
  ·exact .inr (by omega))
 have h2 := h1.kp (Kp.grown (M := fun b => MR M v b ∨ b = gg) hg fun k hk => .inl (.inr hk))
 exact h2.more fun b hb => .inl (hb.elim (fun h => .inl (.inl h)) fun h => .inr (by simp only [Value.ownBlock, Option.some.injEq] at h; exact h.symm))
theorem mx_snoc (c : Nat → Nat) (k t : Nat) : ∀ m, m ≤ k → mx (snoc c k t) m = mx c m
 | 0, _ => rfl
 | m + 1, h => by
  show max (mx (snoc c k t) m) (snoc c k t m) = max (mx c m) (c m)
  rw [mx_snoc c k t m (by omega), snoc_lt _ _ _ _ (by omega)]
theorem PsRaw.at {W W' : World} {a : Option Addr} {n cap : Nat} {Y : Nat → SE} (h : PsRaw W a n cap Y) (he : Ext W W') (i : Nat) (hi : i < n) : ∃ b off, a = some ⟨b, off, none⟩ ∧ b < W'.heap.size ∧ W'.cell? ⟨b, off + i, none⟩ = some (.slice (Y i).a (Y i).n (Y i).p) ∧ ∃ X, TRaw W' (Y i).a (Y i).n (Y i).p X ∧ PRaw W (Y i).a (Y i).n (Y i).p X := by
 obtain ⟨b, off, h1, h2, h3, X, h4⟩ := h.2.2 i hi
 exact ⟨b, off, h1, Nat.lt_of_lt_of_le h2 he.size, by rw [he.cell h2]; exact h3, X, h4.1.ext he, h4⟩
def DRows (wr : World) (v : Value) (k : Nat) (rv : Nat → Value) (c : Nat → Nat) (P : Nat → Nat → List Tm) : Prop := (∀ r, r < k → KRow (MR M0 v) wr 4 (rv r) (c r) (P r) ∧ c r ≤ 6 ∧ ∀ j, j < c r → Ent1 (P r j)) ∧ ∀ r, k ≤ r → c r = 0
theorem one_any (v : Value) (h : v.oneCell' = true) (j : Nat) (hj : j < 1) : (arr #[v] j).oneCell' = true := by
 obtain rfl : j = 0 := by omega
 exact h
theorem rv_app (rv : Nat → Value) (k : Nat) (u : Value) (j : Nat) (hj : j < (k + 1) * 1) : app rv k (arr #[u]) j = snoc rv k u j := by
 unfold app
 by_cases h : j < k
 ·rw [if_pos h, snoc_lt _ _ _ _ h]
 ·rw [if_neg h]
  obtain rfl : j = k := by omega
  rw [Nat.sub_self, snoc_at]; rfl
set_option maxRecDepth 100000 in
set_option maxHeartbeats 32000000 in
theorem law_det (a : Option Addr) (n cap : Nat) (R : Nat → SE) (w : World) (h : PsRaw2 w a n cap 1048576 R) :
  Calls Tryz.prog 4 #[.slice a n cap] w fun e w' => e = .returned (.bool true) ∧ Ext w w' := by
 obtain ⟨i0, hi, hz0, hz1, hz2⟩ := info_parts Tryz.info33
 obtain ⟨j0, ji, jz0, jz1, jz2⟩ := info_parts Tryz.info31
 have hnb : (n : Int) ≤ 9223372036854775807 := by have h1 := h.1; have h2 := h.2.1; unfold maxLen at h2; omega
 have HR := Lib.hid h.2.2
 clear h
 go_enter Tryz.func4, Tryz.ntmps4
 go_wp2_with (fail)
 refine (law_fit25 _).mono ?_
 rintro e w1 ⟨rfl, he1⟩
 have HE1 := Lib.hid he1
 clear he1
 by_cases hn4 : 4 < n
 ·have hn4I : (4 : Int) < (n : Int) := by omega
  go_wp2
  go_ret
  exact ⟨rfl, HE1.out⟩
 have hn4I : ¬ (4 : Int) < (n : Int) := by omega
 have HN : Hid (n ≤ 4) := by show n ≤ 4; omega
 clear hn4 hnb
 have hnI : (n : Int) ≤ 4 := by omega
 have hn0 : (0 : Int) ≤ (n : Int) := Int.natCast_nonneg _
 go_wp2
 go_loopw [19, 4, 3] (fun iv wv mv wr => ∃ (k : Nat) (rv : Nat → Value) (c : Nat → Nat) (P : Nat → Nat → List Tm), k ≤ n ∧ iv = .int .i64 (k : Int) ∧ wv = .int .i64 ((mx c k : Nat) : Int) ∧ Own wr w1.heap.size 31 1 mv k rv ∧ Hid (DRows wr mv k rv c P) ∧ Hid (Ext w1 wr)) (fun iv _ _ _ => n - (intOf iv).toNat)
 case atStart => exact ⟨0, fun _ => .slice none 0 0, fun _ => 0, fun _ _ => [], Nat.zero_le _, rfl, rfl, Own.nil _ _ _ _ _, ⟨fun r hr => absurd hr (Nat.not_lt_zero _), fun _ _ => rfl⟩, Ext.refl _⟩
 case round =>
  obtain ⟨k, rv, c, P, hk, rfl, rfl, hO, HD, HE⟩ := hrel
  obtain ⟨va, vc, rfl⟩ := hO.form
  have HO := Lib.hid hO
  clear hO
  have hk0 : (0 : Int) ≤ (k : Int) := Int.natCast_nonneg _
  by_cases hlt : k < n
  ·obtain ⟨b, off, rfl, hbw, c0, hB, Y, hY⟩ := HR.out k hlt
   have hltI : (k : Int) < (n : Int) := by omega
   have HLT := Lib.hid hlt
   have hcell : wr.cell? ⟨b, off + k, none⟩ = some (.slice (R k).a (R k).n (R k).p) := by rw [(HE1.out.trans HE.out).cell hbw]; exact c0
   obtain ⟨ya, hya⟩ : ∃ ya, ya = (R k).a := ⟨_, rfl⟩
   obtain ⟨yn, hyn⟩ : ∃ yn, yn = (R k).n := ⟨_, rfl⟩
   obtain ⟨yp, hyp⟩ : ∃ yp, yp = (R k).p := ⟨_, rfl⟩
   rw [← hya, ← hyn, ← hyp] at hcell hY
   rw [← hyn] at hB
   have HY := Lib.hid hY
   have hyI : (yn : Int) ≤ 1048576 := by omega
   have HYN : Hid (yn ≤ 1048576) := hB
   obtain ⟨mk, hmk⟩ : ∃ mk, mk = mx c k := ⟨_, rfl⟩
   rw [← hmk]
   have HMK := Lib.hid hmk
   have hmkI : (mk : Int) ≤ 6 := by
    have : ∀ q, q ≤ k → mx c q ≤ 6 := fun q => by
     induction q with
     | zero => intro _; exact Nat.zero_le _
     | succ q ih => intro hq; have h1 := ih (by omega); have h2 := (HD.out.1 q (by omega)).2.1; show max (mx c q) (c q) ≤ 6; omega
    have := this k (Nat.le_refl _); omega
   have hmk0 : (0 : Int) ≤ (mk : Int) := Int.natCast_nonneg _
   clear c0 hB hY hya hyn hyp hk hlt hmk hbw
   obtain ⟨wo, rfl⟩ : ∃ wo, wo = wr := ⟨_, rfl⟩
   go_wp2
   go_loopw [25, 7] (fun iv v wi => ∃ (t : Nat) (P' : Nat → List Tm), t ≤ yn ∧ iv = .int .i64 (t : Int) ∧ Hid (PRowF (MR M0 (.slice va k vc)) wo.heap.size wi v t P') ∧ Hid (∀ j, j < t → Ent1 (P' j)) ∧ Hid (Ext wo wi)) (fun iv _ _ => yn - (intOf iv).toNat)
   case atStart => exact ⟨0, fun _ => [], Nat.zero_le _, rfl, PRowF.nil _ _ _ _, fun j hj => absurd hj (Nat.not_lt_zero _), Ext.refl _⟩
   case round =>
    obtain ⟨t, P', ht, rfl, HT, HEN, HEI⟩ := hrel
    obtain ⟨xx, hTO, hTX⟩ := HT.out
    obtain ⟨ra, rc, rfl⟩ := hTO.form
    have ht0 : (0 : Int) ≤ (t : Int) := Int.natCast_nonneg _
    by_cases htl : t < yn
    ·obtain ⟨b2, off2, rfl, hb2, c2, X, hTr, hX⟩ := HY.out.at ((HE1.out.trans HE.out).trans HEI.out) t htl
     have htI : (t : Int) < (yn : Int) := by omega
     have HTL := Lib.hid htl
     have CF := Lib.hid (law_few24 _ _ _ X 4 3 wr hTr hX.2.1)
     rw [show ((4 : Nat) : Int) = 4 from rfl, show ((3 : Nat) : Int) = 3 from rfl] at CF
     have HRX := Lib.hid hX
     have HTO := Lib.hid hTO
     have HTX := Lib.hid hTX
     clear hTr hX hTO hTX HT htl ht hcell
     go_wp2_with (fail)
     refine CF.out.mono ?_
     rintro e w2 ⟨bf, rfl, hbf, rfl⟩
     cases bf with
     | false =>
      have HF := Lib.hid ((HE1.out.trans HE.out).trans HEI.out)
      clear hbf CF HTX HTO HRX c2 HEI HEN
      go_wp2
      go_ret
      exact ⟨rfl, HF.out⟩
     | true =>
     have HFW := Lib.hid (hbf.1 rfl)
     clear hbf CF
     obtain ⟨l, hl, hs, hd1, hx1⟩ := HRX.out.smD (B := 3) HFW.out (by omega) (by omega)
     have HSM : Hid (Ent1 (norm l)) := ⟨hs.nn, hs.deg, hs.dl⟩
     have HM5 : Hid (Mb (MR (MR M0 (.slice va k vc)) (.slice ra t rc)) wr) := mr_own ((mr_own (mb0 w1) HE.out HO.out).ext HEI.out) (Ext.refl wr) HTO.out
     have CO := Lib.hid (rp_Of (MR (MR M0 (.slice va k vc)) (.slice ra t rc)) (.slice (Y t).a (Y t).n (Y t).p) l wr HM5.out ((hl.more (M' := MR (MR M0 (.slice va k vc)) (.slice ra t rc)) (fun b hb => by
      rcases hb with (hb | hb) | hb
      ·exact .inl hb
      ·exact .inr (Nat.le_trans HE1.out.size (HO.out.lt b hb).1)
      ·exact .inr (Nat.le_trans (HE1.out.trans HE.out).size (HTO.out.lt b hb).1))).ext ((HE1.out.trans HE.out).trans HEI.out)) hd1 hx1)
     clear hl hs hd1 hx1 HM5 HRX HFW c2
     go_wp2_with (fail)
     refine CO.out.mono ?_
     rintro e w5 ⟨z, rfl, hz, he5⟩
     have hEA : Ext wr (w5.alloc (.cells (peA z) 33)) := he5.alloc _
     have hO5 := HTO.out.ext hEA
     have hB5 := Blk.of_arr w5 (peA z) 33 4 rfl
     have HONE : Hid (∀ j, j < 4 → (arr (peA z) j).oneCell' = true) := pe_one z
     have HZ := Lib.hid (hz.ext ((Ext.refl w5).alloc (.cells (peA z) 33)))
     have HEA := Lib.hid hEA
     have hsz5 : wo.heap.size ≤ (w5.alloc (.cells (peA z) 33)).heap.size := (HEI.out.trans hEA).size
     have HSZ5 := Lib.hid hsz5
     have htb : t ≤ 1048576 := by have := HTL.out; have := HYN.out; omega
     clear hz he5 CO hEA hsz5
     go_wp2_with (at_builtin; refine wpList_append_fn _ rfl (.tmp 32) (.tmp 35) _ rfl wo.heap.size 33 i0 _ 4 64 Tryz.underlying31 hi hz0 hz1 hz2 rfl (by omega) (.slice ra t rc) t (px xx) rfl hO5 w5.heap.size 33 1 (arr (peA z)) rfl hB5 HONE.out ?s1 ?s2 ?s3 ?_)
     case s1 => unfold maxLen; omega
     case s2 => omega
     case s3 => exact HSZ5.out
     intro gg cap2 w9 hO6 hg6 hat hlt6
     replace hat : (Value.slice ra t rc).ownBlock = some gg ∨ (w5.alloc (.cells (peA z) 33)).heap.size ≤ gg := by rw [World.size_alloc]; exact hat
     have HF : Hid (PRowF (MR M0 (.slice va k vc)) wo.heap.size w9 (.slice (some ⟨gg, 0, none⟩) (t + 1) cap2) (t + 1) (snoc P' t (norm l)) ∧ (∀ j, j < t + 1 → Ent1 (snoc P' t (norm l) j)) ∧ Ext wo w9) := ⟨PRowF.push (fun j hj => by rw [snoc_lt _ _ _ _ hj]; exact (HTX.out j hj).ext HEA.out) (by rw [snoc_at]; exact HZ.out) hO6 hg6 hat, fun j hj => by
      by_cases h1 : j = t
      ·rw [h1, snoc_at]; exact HSM.out
      ·rw [snoc_lt _ _ _ _ (by omega)]; exact HEN.out j (by omega), (HEI.out.trans HEA.out).grown hg6 fun q hq => (HTO.out.lt q hq).1⟩
     clear hO6 hg6 hat hO5 hB5 HZ HEA HSZ5 HTO HTX HONE hlt6 HSM HEN HEI
     go_wp2
     go_roundw
     case rel => exact ⟨t + 1, _, HTL.out, by go_num, HF.out.1, HF.out.2.1, HF.out.2.2⟩
     case measure => have := HTL.out; simp [intOf]; omega
    ·obtain rfl : t = yn := by omega
     have hge2 : ¬ (t : Int) < (t : Int) := by omega
     by_cases h6 : 6 < t
     ·have h6I : (6 : Int) < (t : Int) := by omega
      have HF := Lib.hid ((HE1.out.trans HE.out).trans HEI.out)
      clear HT HEN HEI hTO hTX h6
      go_wp2
      go_ret
      exact ⟨rfl, HF.out⟩
     have h6I : ¬ (6 : Int) < (t : Int) := by omega
     have H6 : Hid (t ≤ 6) := by show t ≤ 6; omega
     have HTL := Lib.hid hTO.lt
     have HKR : Hid (KRow (MR M0 (.slice va k vc)) wr 4 (.slice ra t rc) t P') := HT.out.krow (fun g hg hm => hm.elim (fun h => h.elim) fun h => by have := (HO.out.lt g h).2; omega) (by omega)
     have hEA : Ext wr (wr.alloc (.cells #[.slice ra t rc] 31)) := (Ext.refl wr).alloc _
     have hO5 := (HO.out.ext HEI.out).ext hEA
     have hB5 := Blk.of_arr wr #[.slice ra t rc] 31 1 rfl
     have HONE := Lib.hid (one_any (.slice ra t rc) rfl)
     have HEA := Lib.hid hEA
     have hsz5 : w1.heap.size ≤ (wr.alloc (.cells #[.slice ra t rc] 31)).heap.size := (HE.out.trans (HEI.out.trans hEA)).size
     have HSZ5 := Lib.hid hsz5
     have hkb : k ≤ 4 := by have := HLT.out; have := HN.out; omega
     have HMX : Hid (max (mk : Int) (t : Int) = ((mx (snoc c k t) (k + 1) : Nat) : Int)) := by
      show max (mk : Int) (t : Int) = ((max (mx (snoc c k t) k) (snoc c k t k) : Nat) : Int)
      rw [mx_snoc c k t k (Nat.le_refl _), snoc_at, HMK.out]; omega
     clear HT hTO hTX hEA hsz5 h6 hcell
     go_wp2_with (at_builtin; refine wpList_append_fn _ rfl (.tmp 45) (.tmp 47) _ rfl w1.heap.size 31 j0 _ 1 24 Tryz.underlying36 ji jz0 jz1 jz2 rfl (by omega) (.slice va k vc) k rv rfl hO5 wr.heap.size 31 1 (arr #[.slice ra t rc]) rfl hB5 HONE.out ?s1 ?s2 ?s3 ?_)
     case s1 => unfold maxLen; omega
     case s2 => omega
     case s3 => first | exact HSZ5.out | (have := HSZ5.out; simpa using this)
     intro gg cap2 w6 hO6 hg6 hat hlt6
     replace hat : (Value.slice va k vc).ownBlock = some gg ∨ (wr.alloc (.cells #[.slice ra t rc] 31)).heap.size ≤ gg := by rw [World.size_alloc]; exact hat
     have HF : Hid (Own w6 w1.heap.size 31 1 (.slice (some ⟨gg, 0, none⟩) (k + 1) cap2) (k + 1) (snoc rv k (.slice ra t rc)) ∧ DRows w6 (.slice (some ⟨gg, 0, none⟩) (k + 1) cap2) (k + 1) (snoc rv k (.slice ra t rc)) (snoc c k t) (snoc P k P') ∧ Ext w1 w6) := by
      refine ⟨hO6.congr fun j hj => rv_app rv k _ j hj, ⟨fun r hr => ?_, fun r hr => ?_⟩, (HE.out.trans (HEI.out.trans HEA.out)).grown hg6 fun q hq => (HO.out.lt q hq).1⟩
      ·by_cases h1 : r = k
       ·subst h1
        rw [snoc_at, snoc_at, snoc_at]
        exact ⟨(HKR.out.ext HEA.out).grown hg6 hat, H6.out, HEN.out⟩
       ·rw [snoc_lt _ _ _ _ (by omega), snoc_lt _ _ _ _ (by omega), snoc_lt _ _ _ _ (by omega)]
        have h2 := HD.out.1 r (by omega)
        exact ⟨(h2.1.ext (HEI.out.trans HEA.out)).grown hg6 hat, h2.2.1, h2.2.2⟩
      ·show snoc c k t r = 0
       unfold snoc
       rw [if_neg (by omega)]
       exact HD.out.2 r (by omega)
     clear hO6 hg6 hat hO5 hB5 HKR HD HEA HSZ5 HONE hlt6 HTL HEN HEI HO HE
     go_wp2
     go_roundw
     case rel => exact ⟨k + 1, _, snoc c k t, _, HLT.out, by go_num, by rw [← HMX.out], HF.out.1, HF.out.2.1, HF.out.2.2⟩
     case measure => have := HLT.out; simp [intOf]; omega
  ·obtain rfl : k = n := by omega
   have hge : ¬ (k : Int) < (k : Int) := by omega
   have hMR : MRow M0 wr (.slice va k vc) k c P := by
    refine ⟨va, vc, rv, rfl, fun r hr => ?_⟩
    obtain ⟨q, cp, F, e, hq, hB, hqc, hqm, hF⟩ := HO.out.some (by omega)
    cases e
    refine ⟨q, rfl, hB.lt, fun h => h, ?_, (HD.out.1 r hr).1.more fun b hb => .inl (.inl hb)⟩
    rw [hB.cell (by omega), hF r (by omega)]
   have hEnt : EntP (zx c P) := by
    have e : ∀ i j, Ent1 (zx c P i j) := fun i j => by
     show Ent1 (if j < c i then P i j else [])
     by_cases hj : j < c i
     ·rw [if_pos hj]
      by_cases hik : i < k
      ·exact (HD.out.1 i hik).2.2 j hj
      ·have := HD.out.2 i (by omega); omega
     ·rw [if_neg hj]; exact ⟨NN.nil, fun m hm => absurd rfl hm, Nat.zero_le _⟩
    exact ⟨fun i j => (e i j).1, fun i j => (e i j).2.1, fun i j => (e i j).2.2⟩
   have CD := Lib.hid (sr_Determinant M0 wr (.slice va k vc) k c P (mb0 wr) hMR HN.out (fun q hq => by have := (HD.out.1 q hq).2.1; omega) hEnt)
   have CRD : Hid (∀ W, Ext wr W → Calls Tryz.prog 21 #[.slice va k vc] W (RetX M0 W 4 (detP k (zx c P)))) := fun W he => rf_det k HN.out M0 W (.slice va k vc) c P (mb0 W) (hMR.ext he) hEnt
   have HEW := Lib.hid (HE1.out.trans HE.out)
   obtain ⟨mk, hmk⟩ : ∃ mk, mk = mx c k := ⟨_, rfl⟩
   have HMK := Lib.hid hmk
   rw [← hmk]
   clear hMR hEnt HD HO HE hmk
   go_wp2_with (fail)
   refine CD.out.mono ?_
   rintro e w2 ⟨d, er, rfl, hcase, e2⟩
   have hE2 : Ext wr (w2.alloc (.cells #[.int .i64 d.lv, .bool d.b, .slice d.a d.n d.p, .slice d.ka d.kn d.kp] 33)) := e2.alloc _
   have hB2 : P4 (w2.alloc (.cells #[.int .i64 d.lv, .bool d.b, .slice d.a d.n d.p, .slice d.ka d.kn d.kp] 33)) w2.heap.size d := (Blk.of_arr w2 (peA d) 33 4 rfl).p4
   have hlt2 : w2.heap.size < (w2.alloc (.cells #[.int .i64 d.lv, .bool d.b, .slice d.a d.n d.p, .slice d.ka d.kn d.kp] 33)).heap.size := by simp
   rcases hcase with ⟨hne, rfl, hdz⟩ | ⟨heq, rfl, hd⟩
   ·have hmn : ((mk : Int) == (k : Int)) = false := by have := HMK.out; simp; omega
    have hmn2 : ¬ (mk : Int) = (k : Int) := by have := HMK.out; omega
    have hzz : CRx M0 (w2.alloc (.cells #[.int .i64 d.lv, .bool d.b, .slice d.a d.n d.p, .slice d.ka d.kn d.kp] 33)) 4 d [] := by rw [hdz]; exact CR.zero _ _ 4
    clear hne hdz
    go_upto_region 24 with (fail)
    obtain ⟨WX, hWX⟩ : ∃ WX, WX = w2.alloc (.cells #[.int .i64 d.lv, .bool d.b, .slice d.a d.n d.p, .slice d.ka d.kn d.kp] 33) := ⟨_, rfl⟩
    rw [← hWX] at hE2 hB2 hzz hlt2 ⊢
    obtain ⟨gx, hgx⟩ : ∃ gx, gx = w2.heap.size := ⟨_, rfl⟩
    rw [← hgx] at hB2 ⊢
    have CZ := Lib.hid (rp_IsZero M0 d [] WX (mb0 WX) hzz.pi)
    have HEX := Lib.hid (HEW.out.trans hE2)
    obtain ⟨x0, x1, x2, x3⟩ := hB2
    clear hWX hgx hE2 hzz hlt2 CRD CD HEW HMK
    go_wp2_with (fail)
    refine CZ.out.mono ?_
    rintro e w3 ⟨bz, rfl, hbz, e3⟩
    obtain rfl : bz = true := hbz.2 (Sim.refl _)
    have HF := Lib.hid (HEX.out.trans e3)
    clear hbz e3 CZ HEX x0 x1 x2 x3
    go_wp2
    go_ret
    exact ⟨rfl, HF.out⟩
   ·have hmn : ((mk : Int) == (k : Int)) = true := by have := HMK.out; simp; omega
    have hmn2 : (mk : Int) = (k : Int) := by have := HMK.out; omega
    have hd2 := hd.ext ((Ext.refl w2).alloc (.cells #[.int .i64 d.lv, .bool d.b, .slice d.a d.n d.p, .slice d.ka d.kn d.kp] 33))
    clear hd heq
    go_upto_region 24 with (fail)
    obtain ⟨WX, hWX⟩ : ∃ WX, WX = w2.alloc (.cells #[.int .i64 d.lv, .bool d.b, .slice d.a d.n d.p, .slice d.ka d.kn d.kp] 33) := ⟨_, rfl⟩
    rw [← hWX] at hE2 hB2 hd2 hlt2 ⊢
    obtain ⟨gx, hgx⟩ : ∃ gx, gx = w2.heap.size := ⟨_, rfl⟩
    rw [← hgx] at hB2 ⊢
    have HB2 := Lib.hid hB2
    have HD2 := Lib.hid hd2
    have HE2 := Lib.hid hE2
    clear hWX hgx hE2 hd2 hlt2 CD HMK hB2
    go_upto_region 26 with (fail)
    have HSd : Hid (P4 WX.drew gx d) := HB2.out.ext (Ext.refl _).drew
    have HED : Hid (Ext WX WX.drew) := (Ext.refl _).drew
    have HDD := Lib.hid (HD2.out.ext HED.out)
    refine wp_region_u (fun w => P4 w gx d) 13 (by kernel_rfl) HSd.out (fun hHeld => ?_)
    generalize WX.drew = wd at *
    have hHeld : P4 wd gx d := HSd.out
    have CC := Lib.hid (rf_canonical 4 M0 _ d 5 wd HDD.out (by have := HDD.out.lev; omega))
    (refine tkB [0, 1, 2, 3] ?_; (iterate 4 (refine tk1 (oi := ?_) (v := ?_) (by kernel_rfl) (by first | exact hSn | exact hHeld) ?_ ?_ ?_ ?_ ?_; rotate_left 2; (simp only [xgA, xgB, xgC]; rfl); rfl; (intro wS hSw; obtain ⟨A0, A1, A2, A3⟩ := hSw; go_simp; try with_reducible rfl); (exact fun _ _ _ h => h); (try simp only [Act.put, xgD, xgE, xgF]))); refine tkE ?_)
    ((refine wpAnyU_one 4 (o := ?_) (by kernel_rfl) ?_ ?_; rotate_left 1; (simp only [xgA, xgB, xgC]; rfl); intro K hK); go_simp; (refine (CC.out).mono ?_); rintro e_ w4 ⟨rfl, e1⟩; go_wp2_with (fail); (try clear hSn); (have hSn := hHeld.ext e1); (refine hK.out _ _ (fun _ => hSn) ?_); clear hK K; (try simp only [Act.put, xgD, xgE, xgF]))
    (refine tkB [5, 6, 7, 8] ?_; (iterate 4 (refine tk1 (oi := ?_) (v := ?_) (by kernel_rfl) (by first | exact hSn | exact hHeld) ?_ ?_ ?_ ?_ ?_; rotate_left 2; (simp only [xgA, xgB, xgC]; rfl); rfl; (intro wS hSw; obtain ⟨A0, A1, A2, A3⟩ := hSw; go_simp; try with_reducible rfl); (exact fun _ _ _ h => h); (try simp only [Act.put, xgD, xgE, xgF]))); refine tkE ?_)
    ((refine wpAnyU_one 9 (o := ?_) (by kernel_rfl) ?_ ?_; rotate_left 1; (simp only [xgA, xgB, xgC]; rfl); intro K hK); go_simp; (refine (CRD.out w4 (HE2.out.trans (HED.out.trans e1))).mono ?_); rintro e_ w5 ⟨u, rfl, hu, e2'⟩; go_wp2_with (fail); (try clear hSn); (have hSn := hHeld.ext (e1.trans e2')); (refine hK.out _ _ (fun _ => hSn) ?_); clear hK K; (try simp only [Act.put, xgD, xgE, xgF]))
    have CS := Lib.hid (same_b d u _ _ w5 true (HDD.out.ext (e1.trans e2')).pi hu.pi (by simp [Sim.refl]))
    ((refine wpAnyU_one 10 (o := ?_) (by kernel_rfl) ?_ ?_; rotate_left 1; (simp only [xgA, xgB, xgC]; rfl); intro K hK); go_simp; (refine (CS.out).mono ?_); rintro e_ w6 ⟨rfl, e3⟩; go_wp2_with (fail); (try clear hSn); (have hSn := hHeld.ext ((e1.trans e2').trans e3)); (refine hK.out _ _ (fun _ => hSn) ?_); clear hK K; (try simp only [Act.put, xgD, xgE, xgF]))
    (refine tkB [11, 12] ?_; (iterate 2 (refine tk1 (oi := ?_) (v := ?_) (by kernel_rfl) (by first | exact hSn | exact hHeld) ?_ ?_ ?_ ?_ ?_; rotate_left 2; (simp only [xgA, xgB, xgC]; rfl); rfl; (intro wS hSw; obtain ⟨A0, A1, A2, A3⟩ := hSw; go_simp; try with_reducible rfl); (exact fun _ _ _ h => h); (try simp only [Act.put, xgD, xgE, xgF]))); refine tkE ?_)
    refine wpAnyU_done (by kernel_rfl) ?_ _
    have HF : Hid (Ext w w6) := HEW.out.trans (HE2.out.trans (HED.out.trans ((e1.trans e2').trans e3)))
    clear hHeld hSn e1 e2' e3 CC CS CRD HSd HED HDD HB2 HD2 HE2 HEW hu
    go_wp2
    go_ret
    exact ⟨rfl, HF.out⟩
end Go.Proofs.YtpclggidcmmemaaGreat
