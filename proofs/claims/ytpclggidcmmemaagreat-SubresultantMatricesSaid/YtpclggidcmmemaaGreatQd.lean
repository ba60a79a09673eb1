/- subresultant.Sylvester. subresultant.Sylvester and Minor where check answers an error. subresultant.Minor. subresultant.Minor where the indices are refused; mainvar.Coef at any exponent. -/
import Derived.Test.YtpclggidcmmemaaGreatQc
set_option linter.unusedVariables false
set_option linter.unusedSimpArgs false

namespace Go.Proofs.YtpclggidcmmemaaGreat
open Go.RowKit

def RetCV (M : Nat → Prop) (w : World) (J n : Nat) (l : List Tm) (e : Ending) (w' : World) : Prop := ∃ g : Nat, e = .returned (.slice (some ⟨g, 0, none⟩) (n + 1) (n + 1)) ∧ w.heap.size ≤ g ∧ Kids M w' 4 g (n + 1) (fun i => ck J (i : Int) l) ∧ Ext w w'
theorem mv_CoefsV (M : Nat → Prop) (x : PE) (l : List Tm) (J n : Nat) (B : Nat) (w : World) (h1 : 1 ≤ J) (h4 : J ≤ 4) (nl : NN l) (hz : ¬ Sim l []) (hd : DgR J l n) (hM : Mb M w) (h : PI M w x l) (hB : Deg B l) (hB4 : (B + 1) ^ 4 ≤ 1099511627776) (hB2 : B + 1 ≤ 1073741824) (hR : dlen (nrm l) ≤ 1099511627776) : Calls Tryz.prog 45 #[.agg (peA x), .int .i64 (J : Int)] w (RetCV M w J n l) := by
 refine (mv_Coefs M x l (J : Int) B w hM h hB hB4 hB2 hR).mono ?_
 rintro e w' ⟨hr, he⟩
 rcases hr with ⟨k, _⟩ | ⟨_, k, _⟩ | ⟨_, K, a, g, hKJ, hK1, hK4, rfl, hg, ha, hk⟩
 ·exact absurd k hz
 ·exact absurd ⟨by omega, by omega⟩ k
 ·obtain rfl : J = K := by omega
  obtain rfl := dgr_uniq nl hz ha hd
  exact ⟨g, rfl, hg, hk.more fun b hb => .inl (.inl hb), he⟩
def syM (J m n : Nat) (f g : List Tm) : Nat → Nat → List Tm := fun k => if k < n then fun i => ck J (((m : Int) + n - 1) - (i : Int) - ((n : Int) - 1 - (k : Int))) f else fun i => ck J (((m : Int) + n - 1) - (i : Int) - ((m : Int) - 1 - ((k - n : Nat) : Int))) g
def RetSy (M : Nat → Prop) (w : World) (J m n : Nat) (f g : List Tm) (e : Ending) (w' : World) : Prop := ∃ a cap, e = .returned (.tuple #[.slice a (n + m) cap, .int .i64 0]) ∧ (∃ base, w.heap.size ≤ base ∧ Mat M w' base (.slice a (n + m) cap) (n + m) (m + n) (syM J m n f g)) ∧ Ext w w'
set_option maxRecDepth 100000 in
set_option maxHeartbeats 32000000 in
theorem sr_Sylvester (M : Nat → Prop) (w : World) (x y : PE) (J m n : Nat) (f g : List Tm) (hM : Mb M w) (hm : m ≤ 100) (hn : n ≤ 100) (hzf : ∀ e : Int, e < 0 ∨ ((m + 1 : Nat) : Int) ≤ e → Sim (ck J e f) []) (hzg : ∀ e : Int, e < 0 ∨ ((n + 1 : Nat) : Int) ≤ e → Sim (ck J e g) [])
  (H : ∀ wk, Ext w wk → Calls Tryz.prog 44 #[.agg (peA x), .agg (peA y), .int .i64 (J : Int)] wk fun e w' => e = .returned (.int .i64 0) ∧ Ext wk w')
  (HA : ∀ wk, Ext w wk → Calls Tryz.prog 45 #[.agg (peA x), .int .i64 (J : Int)] wk (RetCV M wk J m f))
  (HB : ∀ wk, Ext w wk → Calls Tryz.prog 45 #[.agg (peA y), .int .i64 (J : Int)] wk (RetCV M wk J n g)) :
  Calls Tryz.prog 10 #[.agg (peA x), .agg (peA y), .int .i64 (J : Int)] w (RetSy M w J m n f g) := by
 have hE := ((Ext.refl w).alloc (.cells (peA x) 33)).alloc (.cells (peA y) 33)
 have hBx := new_px2S w x y
 generalize hW : (w.alloc (.cells (peA x) 33)).alloc (.cells (peA y) 33) = W at *
 have HW := Lib.hid hW
 have HE := Lib.hid hE
 have HBX : Hid (SBr w.heap.size x y W) := hBx
 have HM := Lib.hid hM
 have HH := Lib.hid H
 have CA := Lib.hid HA
 have CB := Lib.hid HB
 have HZF := Lib.hid hzf
 have HZG := Lib.hid hzg
 have HMN : Hid (m ≤ 100 ∧ n ≤ 100) := ⟨hm, hn⟩
 clear hE hBx hW hM H HA HB hm hn hzf hzg
 go_enter Tryz.func10, Tryz.ntmps10
 go_upto_region 1 with (fail)
 rw [HW.out]
 obtain ⟨g0, hg0⟩ : ∃ g0, g0 = w.heap.size := ⟨_, rfl⟩
 rw [← hg0] at HBX ⊢
 clear hg0 HW
 obtain ⟨⟨x0, x1, x2, x3⟩, y0, y1, y2, y3⟩ := HBX.out
 go_wp2_with (fail)
 refine (HH.out W HE.out).mono ?_
 rintro e w1 ⟨rfl, e1⟩
 have HB1 := Lib.hid (HBX.out.ext e1)
 have HE1 := Lib.hid (HE.out.trans e1)
 clear x0 x1 x2 x3 y0 y1 y2 y3 HBX HE e1 HH
 go_upto_region 4 with (fail)
 have HPd : Hid (SBr g0 x y w1.drew) := HB1.out.ext (Ext.refl _).drew
 have HD0 : Hid (Ext w w1.drew) := HE1.out.trans (Ext.refl _).drew
 refine wp_region_u (SBr g0 x y) 8 (by kernel_rfl) HPd.out (fun hHeld => ?_)
 generalize w1.drew = wd at *
 (refine tkB [0, 1, 3, 4] ?_; (iterate 4 (refine tk1 (oi := ?_) (v := ?_) (by kernel_rfl) (by first | exact hSn | exact hHeld) ?_ ?_ ?_ ?_ ?_; rotate_left 2; (simp only [xgA, xgB, xgC]; rfl); rfl; (intro wS hSw; obtain ⟨⟨A0, A1, A2, A3⟩, B0, B1, B2, B3⟩ := hSw; go_simp; try with_reducible rfl); (exact fun _ _ _ h => h); (try simp only [Act.put, xgD, xgE, xgF]))); refine tkE ?_)
 ((refine wpAnyU_one 2 (o := ?_) (by kernel_rfl) ?_ ?_; rotate_left 1; (simp only [xgA, xgB, xgC]; rfl); intro K hK); go_simp; (refine (CA.out wd HD0.out).mono ?_); rintro e_ w5 ⟨ga, rfl, hga, hka, e2⟩; go_wp2_with (fail); (try clear hSn); (have hSn := hHeld.ext e2); (refine hK.out _ _ (fun _ => hSn) ?_); clear hK K; (try simp only [Act.put, xgD, xgE, xgF]))
 ((refine wpAnyU_one 5 (o := ?_) (by kernel_rfl) ?_ ?_; rotate_left 1; (simp only [xgA, xgB, xgC]; rfl); intro K hK); go_simp; (refine (CB.out w5 (HD0.out.trans e2)).mono ?_); rintro e_ w6 ⟨gb, rfl, hgb, hkb, e5⟩; go_wp2_with (fail); (try clear hSn); (have hSn := hHeld.ext (e2.trans e5)); (refine hK.out _ _ (fun _ => hSn) ?_); clear hK K; (try simp only [Act.put, xgD, xgE, xgF]))
 (refine tkB [6, 7] ?_; (iterate 2 (refine tk1 (oi := ?_) (v := ?_) (by kernel_rfl) (by first | exact hSn | exact hHeld) ?_ ?_ ?_ ?_ ?_; rotate_left 2; (simp only [xgA, xgB, xgC]; rfl); rfl; (intro wS hSw; obtain ⟨⟨A0, A1, A2, A3⟩, B0, B1, B2, B3⟩ := hSw; go_simp; try with_reducible rfl); (exact fun _ _ _ h => h); (try simp only [Act.put, xgD, xgE, xgF]))); refine tkE ?_)
 refine wpAnyU_done (by kernel_rfl) ?_ _
 have HE6 := Lib.hid (HD0.out.trans (e2.trans e5))
 have HKA := Lib.hid (hka.ext e5)
 have HKB := Lib.hid hkb
 clear hHeld hSn e2 e5 HPd HD0 HB1 HE1 CA CB hga hgb hka hkb
 have hm0 : (0 : Int) ≤ (m : Int) := Int.natCast_nonneg _
 have hn0 : (0 : Int) ≤ (n : Int) := Int.natCast_nonneg _
 have hwm : IntKind.i64.wrap ((m : Int) + 1 - 1) = (m : Int) := by rw [IntWalk.i64_in _ (by have := HMN.out; omega)]; omega
 have hwn : IntKind.i64.wrap ((n : Int) + 1 - 1) = (n : Int) := by rw [IntWalk.i64_in _ (by have := HMN.out; omega)]; omega
 go_wp2_with (fail)
 have hm64 : wrap64 (m : Int) = (m : Int) := by have := HMN.out; unfold wrap64; omega
 have hn64 : wrap64 (n : Int) = (n : Int) := by have := HMN.out; unfold wrap64; omega
 have hs64 : wrap64 ((m : Int) + (n : Int)) = (m : Int) + (n : Int) := by have := HMN.out; unfold wrap64; omega
 have ht64 : wrap64 ((m : Int) + (n : Int) - 1) = (m : Int) + (n : Int) - 1 := by have := HMN.out; unfold wrap64; omega
 have hm164 : wrap64 ((m : Int) - 1) = (m : Int) - 1 := by have := HMN.out; unfold wrap64; omega
 have hn164 : wrap64 ((n : Int) - 1) = (n : Int) - 1 := by have := HMN.out; unfold wrap64; omega
 simp only [hm64, hn64, hs64, ht64]
 have HMB6 : Hid (Mb M w6) := HM.out.ext HE6.out
 refine (sr_down w6 ((m : Int) + n - 1) 0 (m + n) (by have := HMN.out; omega) (by have := HMN.out; omega) (fun k _ => by omega)).mono ?_
 rintro e w7 ⟨pa, pc, rfl, hP, e7⟩
 have HP := Lib.hid (Own.num (f := fun j => (m : Int) + n - 1 - (j : Int)) hP)
 have HE7 := Lib.hid (HE6.out.trans e7)
 have HKA7 := Lib.hid (HKA.out.ext e7)
 have HKB7 := Lib.hid (HKB.out.ext e7)
 have HMB7 := Lib.hid (HMB6.out.ext e7)
 clear hP e7 HE6 HKA HKB HMB6 hwm hwn
 go_wp2_with (fail)
 simp only [hn164]
 refine (sr_down w7 ((n : Int) - 1) 0 n (by have := HMN.out; omega) (by have := HMN.out; omega) (fun k _ => by omega)).mono ?_
 rintro e w8 ⟨sa, sc, rfl, hS, e8⟩
 have HS := Lib.hid (Own.num (f := fun j => (n : Int) - 1 - (j : Int)) hS)
 have HP8 := Lib.hid (HP.out.ext e8)
 have HE8 := Lib.hid (HE7.out.trans e8)
 have HKA8 := Lib.hid (HKA7.out.ext e8)
 have HKB8 := Lib.hid (HKB7.out.ext e8)
 have HMB8 := Lib.hid (HMB7.out.ext e8)
 clear hS e8 HE7 HKA7 HKB7 HMB7 HP
 go_wp2_with (fail)
 refine (sr_rows M w8 J (m + 1) ga f pa sa (m + n) pc n sc (fun j => (m : Int) + n - 1 - (j : Int)) (fun j => (n : Int) - 1 - (j : Int)) HMB8.out HKA8.out HP8.out HS.out (by have := HMN.out; omega) (by have := HMN.out; omega) (by have := HMN.out; omega) (fun i hi => by have := HMN.out; show -10000 ≤ (m : Int) + n - 1 - (i : Int) ∧ (m : Int) + n - 1 - (i : Int) ≤ 10000; omega) (fun i hi => by have := HMN.out; show -10000 ≤ (n : Int) - 1 - (i : Int) ∧ (n : Int) - 1 - (i : Int) ≤ 10000; omega) HZF.out).mono ?_
 rintro e w9 ⟨ra, rc, rfl, hR, e9⟩
 have HR9 := Lib.hid hR
 have HE9 := Lib.hid (HE8.out.trans e9)
 have HX9 := Lib.hid e9
 have HP9 := Lib.hid (HP8.out.ext e9)
 clear hR e9 HP8 HS HKA8
 go_wp2_with (fail)
 simp only [hm164]
 refine (sr_down w9 ((m : Int) - 1) 0 m (by have := HMN.out; omega) (by have := HMN.out; omega) (fun k _ => by omega)).mono ?_
 rintro e w10 ⟨ta, tc, rfl, hT, e10⟩
 have HT := Lib.hid (Own.num (f := fun j => (m : Int) - 1 - (j : Int)) hT)
 have HR10 := Lib.hid (HR9.out.ext e10)
 have HE10 := Lib.hid (HE9.out.trans e10)
 have HP10 := Lib.hid (HP9.out.ext e10)
 have HLT : Hid (∀ q, (Value.slice ra n rc).ownBlock = some q → w8.heap.size ≤ q ∧ q < w10.heap.size) := fun q hq => by
  obtain ⟨gs, cs, hO, _⟩ := HR10.out
  exact hO.lt q hq
 have HMR : Hid (Mb (MR M (.slice ra n rc)) w10) := fun q hq => hq.elim (fun h => (HMB8.out.ext (HX9.out.trans e10)) q h) fun h => (HLT.out q h).2
 have HKB10 := Lib.hid ((HKB8.out.more (M' := MR M (.slice ra n rc)) fun b hb => hb.imp id fun h => (HLT.out b h).1).ext (HX9.out.trans e10))
 have HS10 : Hid (w8.heap.size ≤ w10.heap.size) := (HX9.out.trans e10).size
 clear hT e10 HE9 HP9 HR9 HKB8 HMB8 HX9
 go_wp2_with (fail)
 refine (sr_rows (MR M (.slice ra n rc)) w10 J (n + 1) gb g pa ta (m + n) pc m tc (fun j => (m : Int) + n - 1 - (j : Int)) (fun j => (m : Int) - 1 - (j : Int)) HMR.out HKB10.out HP10.out HT.out (by have := HMN.out; omega) (by have := HMN.out; omega) (by have := HMN.out; omega) (fun i hi => by have := HMN.out; show -10000 ≤ (m : Int) + n - 1 - (i : Int) ∧ (m : Int) + n - 1 - (i : Int) ≤ 10000; omega) (fun i hi => by have := HMN.out; show -10000 ≤ (m : Int) - 1 - (i : Int) ∧ (m : Int) - 1 - (i : Int) ≤ 10000; omega) HZG.out).mono ?_
 rintro e w11 ⟨ua, uc, rfl, hU, e11⟩
 have hR11 := HR10.out.ext e11
 have HE11 := Lib.hid (HE10.out.trans e11)
 have HS11 : Hid (w10.heap.size ≤ w11.heap.size) := e11.size
 have HB8 : Hid (w.heap.size ≤ w8.heap.size) := HE8.out.size
 have hSS : n + m ≤ 10000 := by have := HMN.out; omega
 clear e11 HE10 HP10 HT HR10 HKB10 HMR
 go_wp2_with (at_builtin; refine wpList_append_mat _ rfl (.tmp 43) (.tmp 49) _ Tryz.underlying36 rfl M w8.heap.size w10.heap.size (.slice ra n rc) (.slice ua m uc) n m (m + n) _ _ rfl rfl hR11 hU HS10.out (fun q hq => (HLT.out q hq).2) HS11.out hSS ?_)
 intro va vc w12 hV hg12
 have HF : Hid (RetSy M w J m n f g (.returned (.tuple #[.slice va (n + m) vc, .int .i64 0])) w12) := ⟨va, vc, rfl, ⟨_, HB8.out, hV⟩, HE11.out.grown hg12 fun q hq => Nat.le_trans HB8.out (HLT.out q hq).1⟩
 clear hV hg12 hU hR11 HE11 HS11 HS10 HLT HE8 HB8
 go_wp2
 exact bodyPost_ret (v := .tuple #[.slice va (n + m) vc, .int .i64 0]) (by simp [results, Tryz.results10, go_sem]) rfl HF.out
end Go.Proofs.YtpclggidcmmemaaGreat

namespace Go.Proofs.YtpclggidcmmemaaGreat
open Go.RowKit

def RetNo (w : World) (er : Int) (e : Ending) (w' : World) : Prop := e = .returned (.tuple #[.slice none 0 0, .int .i64 er]) ∧ Ext w w'
set_option maxRecDepth 100000 in
set_option maxHeartbeats 8000000 in
theorem sr_SylvesterE (w : World) (x y : PE) (L er : Int) (he : er ≠ 0)
  (H : ∀ wk, Ext w wk → Calls Tryz.prog 44 #[.agg (peA x), .agg (peA y), .int .i64 L] wk fun e w' => e = .returned (.int .i64 er) ∧ Ext wk w') :
  Calls Tryz.prog 10 #[.agg (peA x), .agg (peA y), .int .i64 L] w (RetNo w er) := by
 have hE := ((Ext.refl w).alloc (.cells (peA x) 33)).alloc (.cells (peA y) 33)
 have hBx := new_px2S w x y
 generalize hW : (w.alloc (.cells (peA x) 33)).alloc (.cells (peA y) 33) = W at *
 have HW := Lib.hid hW
 have HE := Lib.hid hE
 have HBX : Hid (SBr w.heap.size x y W) := hBx
 have HH := Lib.hid H
 have hb : (er == 0) = false := by simpa using he
 clear hE hBx hW H
 go_enter Tryz.func10, Tryz.ntmps10
 go_upto_region 1 with (fail)
 rw [HW.out]
 obtain ⟨g0, hg0⟩ : ∃ g0, g0 = w.heap.size := ⟨_, rfl⟩
 rw [← hg0] at HBX ⊢
 clear hg0 HW
 obtain ⟨⟨x0, x1, x2, x3⟩, y0, y1, y2, y3⟩ := HBX.out
 go_wp2_with (fail)
 refine (HH.out W HE.out).mono ?_
 rintro e w1 ⟨rfl, e1⟩
 have HF : Hid (RetNo w er (.returned (.tuple #[.slice none 0 0, .int .i64 er])) w1) := ⟨rfl, HE.out.trans e1⟩
 clear x0 x1 x2 x3 y0 y1 y2 y3 HBX HE e1 HH
 go_wp2
 exact bodyPost_ret (v := .tuple #[.slice none 0 0, .int .i64 er]) (by simp [results, Tryz.results10, go_sem]) rfl HF.out
set_option maxRecDepth 100000 in
set_option maxHeartbeats 8000000 in
theorem sr_MinorE (w : World) (x y : PE) (L er j i : Int) (he : er ≠ 0)
  (H : ∀ wk, Ext w wk → Calls Tryz.prog 44 #[.agg (peA x), .agg (peA y), .int .i64 L] wk fun e w' => e = .returned (.int .i64 er) ∧ Ext wk w') :
  Calls Tryz.prog 11 #[.agg (peA x), .agg (peA y), .int .i64 L, .int .i64 j, .int .i64 i] w (RetNo w er) := by
 have hE := ((Ext.refl w).alloc (.cells (peA x) 33)).alloc (.cells (peA y) 33)
 have hBx := new_px2S w x y
 generalize hW : (w.alloc (.cells (peA x) 33)).alloc (.cells (peA y) 33) = W at *
 have HW := Lib.hid hW
 have HE := Lib.hid hE
 have HBX : Hid (SBr w.heap.size x y W) := hBx
 have HH := Lib.hid H
 have hb : (er == 0) = false := by simpa using he
 clear hE hBx hW H
 go_enter Tryz.func11, Tryz.ntmps11
 go_upto_region 1 with (fail)
 rw [HW.out]
 obtain ⟨g0, hg0⟩ : ∃ g0, g0 = w.heap.size := ⟨_, rfl⟩
 rw [← hg0] at HBX ⊢
 clear hg0 HW
 obtain ⟨⟨x0, x1, x2, x3⟩, y0, y1, y2, y3⟩ := HBX.out
 go_wp2_with (fail)
 refine (HH.out W HE.out).mono ?_
 rintro e w1 ⟨rfl, e1⟩
 have HF : Hid (RetNo w er (.returned (.tuple #[.slice none 0 0, .int .i64 er])) w1) := ⟨rfl, HE.out.trans e1⟩
 clear x0 x1 x2 x3 y0 y1 y2 y3 HBX HE e1 HH
 go_wp2
 exact bodyPost_ret (v := .tuple #[.slice none 0 0, .int .i64 er]) (by simp [results, Tryz.results11, go_sem]) rfl HF.out
end Go.Proofs.YtpclggidcmmemaaGreat

namespace Go.Proofs.YtpclggidcmmemaaGreat
open Go.RowKit

def pwM (t : Int) (c : Nat) (i : Int) : Nat → Int := fun q => if q < c then t - (q : Int) else i
theorem pwM_app (t i : Int) (c j : Nat) (hj : j < (c + 1) * 1) : app (dnf t) c (arr #[.int .i64 i]) j = .int .i64 (pwM t c i j) := by
 unfold app dnf pwM
 by_cases h : j < c
 ·rw [if_pos h, if_pos h]
 ·rw [if_neg h, if_neg h]
  obtain rfl : j = c := by omega
  rw [Nat.sub_self]; rfl
theorem wr64 (z : Int) (h : -100000 ≤ z ∧ z ≤ 100000) : wrap64 z = z := by unfold wrap64; omega
theorem mnB {m n j i c : Nat} (h : m ≤ 100 ∧ n ≤ 100 ∧ j < m ∧ j < n ∧ i ≤ j ∧ c + 1 + j + j = m + n) : (wrap64 ((m : Int) + (n : Int)) = (m : Int) + (n : Int) ∧ wrap64 ((m : Int) + (n : Int) - (j : Int)) = (m : Int) + (n : Int) - (j : Int) ∧ wrap64 ((m : Int) + (n : Int) - (j : Int) - 1) = (m : Int) + (n : Int) - (j : Int) - 1 ∧ wrap64 ((j : Int) + 1) = (j : Int) + 1) ∧ (wrap64 ((m : Int) - (j : Int)) = (m : Int) - (j : Int) ∧ wrap64 ((n : Int) - (j : Int)) = (n : Int) - (j : Int) ∧ wrap64 ((m : Int) - (j : Int) - 1) = (m : Int) - (j : Int) - 1 ∧ wrap64 ((n : Int) - (j : Int) - 1) = (n : Int) - (j : Int) - 1) :=
 ⟨⟨wr64 _ (by omega), wr64 _ (by omega), wr64 _ (by omega), wr64 _ (by omega)⟩, wr64 _ (by omega), wr64 _ (by omega), wr64 _ (by omega), wr64 _ (by omega)⟩
theorem mnC {m n j i c : Nat} (h : m ≤ 100 ∧ n ≤ 100 ∧ j < m ∧ j < n ∧ i ≤ j ∧ c + 1 + j + j = m + n) : ¬ (i : Int) < 0 ∧ ¬ (j : Int) < (i : Int) ∧ ¬ min (m : Int) (n : Int) ≤ (j : Int) ∧ wrap64 (m : Int) = (m : Int) ∧ wrap64 (n : Int) = (n : Int) := ⟨by omega, by omega, by omega, wr64 _ (by omega), wr64 _ (by omega)⟩
theorem mnD {m n j i c : Nat} (h : m ≤ 100 ∧ n ≤ 100 ∧ j < m ∧ j < n ∧ i ≤ j ∧ c + 1 + j + j = m + n) : c ≤ 100000 ∧ (-100000 ≤ (m : Int) + n - j - 1 ∧ (m : Int) + n - j - 1 ≤ 100000) ∧ ∀ k : Nat, k ≤ c → (k < c ↔ (j : Int) + 1 ≤ (m : Int) + n - j - 1 - (k : Int)) := ⟨by omega, by omega, fun k _ => by omega⟩
def mnM (J m n j c : Nat) (i : Int) (f g : List Tm) : Nat → Nat → List Tm := fun k => if k < n - j then fun q => ck J (pwM ((m : Int) + n - j - 1) c i q - ((n : Int) - j - 1 - (k : Int))) f else fun q => ck J (pwM ((m : Int) + n - j - 1) c i q - ((m : Int) - j - 1 - ((k - (n - j) : Nat) : Int))) g
def RetMn (M : Nat → Prop) (w : World) (J m n j c : Nat) (i : Int) (f g : List Tm) (e : Ending) (w' : World) : Prop := ∃ a cap, e = .returned (.tuple #[.slice a (n - j + (m - j)) cap, .int .i64 0]) ∧ (∃ base, w.heap.size ≤ base ∧ Mat M w' base (.slice a (n - j + (m - j)) cap) (n - j + (m - j)) (c + 1) (mnM J m n j c i f g)) ∧ Ext w w'
set_option maxRecDepth 100000 in
set_option maxHeartbeats 32000000 in
theorem sr_Minor (M : Nat → Prop) (w : World) (x y : PE) (J m n j c i : Nat) (f g : List Tm) (hM : Mb M w) (hm : m ≤ 100) (hn : n ≤ 100) (hj1 : j < m) (hj2 : j < n) (hij : i ≤ j) (hc : c + 1 + j + j = m + n) (hzf : ∀ e : Int, e < 0 ∨ ((m + 1 : Nat) : Int) ≤ e → Sim (ck J e f) []) (hzg : ∀ e : Int, e < 0 ∨ ((n + 1 : Nat) : Int) ≤ e → Sim (ck J e g) [])
  (H : ∀ wk, Ext w wk → Calls Tryz.prog 44 #[.agg (peA x), .agg (peA y), .int .i64 (J : Int)] wk fun e w' => e = .returned (.int .i64 0) ∧ Ext wk w')
  (HA : ∀ wk, Ext w wk → Calls Tryz.prog 45 #[.agg (peA x), .int .i64 (J : Int)] wk (RetCV M wk J m f))
  (HB : ∀ wk, Ext w wk → Calls Tryz.prog 45 #[.agg (peA y), .int .i64 (J : Int)] wk (RetCV M wk J n g)) :
  Calls Tryz.prog 11 #[.agg (peA x), .agg (peA y), .int .i64 (J : Int), .int .i64 (j : Int), .int .i64 (i : Int)] w (RetMn M w J m n j c (i : Int) f g) := by
 have hE := ((Ext.refl w).alloc (.cells (peA x) 33)).alloc (.cells (peA y) 33)
 have hBx := new_px2S w x y
 generalize hW : (w.alloc (.cells (peA x) 33)).alloc (.cells (peA y) 33) = W at *
 have HW := Lib.hid hW
 have HE := Lib.hid hE
 have HBX : Hid (SBr w.heap.size x y W) := hBx
 have HM := Lib.hid hM
 have HH := Lib.hid H
 have CA := Lib.hid HA
 have CB := Lib.hid HB
 have HZF := Lib.hid hzf
 have HZG := Lib.hid hzg
 have HMN : Hid (m ≤ 100 ∧ n ≤ 100 ∧ j < m ∧ j < n ∧ i ≤ j ∧ c + 1 + j + j = m + n) := ⟨hm, hn, hj1, hj2, hij, hc⟩
 clear hE hBx hW hM H HA HB hm hn hzf hzg hj1 hj2 hij hc
 go_enter Tryz.func11, Tryz.ntmps11
 go_upto_region 1 with (fail)
 rw [HW.out]
 obtain ⟨g0, hg0⟩ : ∃ g0, g0 = w.heap.size := ⟨_, rfl⟩
 rw [← hg0] at HBX ⊢
 clear hg0 HW
 obtain ⟨⟨x0, x1, x2, x3⟩, y0, y1, y2, y3⟩ := HBX.out
 go_wp2_with (fail)
 refine (HH.out W HE.out).mono ?_
 rintro e w1 ⟨rfl, e1⟩
 have HB1 := Lib.hid (HBX.out.ext e1)
 have HE1 := Lib.hid (HE.out.trans e1)
 clear x0 x1 x2 x3 y0 y1 y2 y3 HBX HE e1 HH
 go_upto_region 4 with (fail)
 have HPd : Hid (SBr g0 x y w1.drew) := HB1.out.ext (Ext.refl _).drew
 have HD0 : Hid (Ext w w1.drew) := HE1.out.trans (Ext.refl _).drew
 refine wp_region_u (SBr g0 x y) 8 (by kernel_rfl) HPd.out (fun hHeld => ?_)
 generalize w1.drew = wd at *
 (refine tkB [0, 1, 3, 4] ?_; (iterate 4 (refine tk1 (oi := ?_) (v := ?_) (by kernel_rfl) (by first | exact hSn | exact hHeld) ?_ ?_ ?_ ?_ ?_; rotate_left 2; (simp only [xgA, xgB, xgC]; rfl); rfl; (intro wS hSw; obtain ⟨⟨A0, A1, A2, A3⟩, B0, B1, B2, B3⟩ := hSw; go_simp; try with_reducible rfl); (exact fun _ _ _ h => h); (try simp only [Act.put, xgD, xgE, xgF]))); refine tkE ?_)
 ((refine wpAnyU_one 2 (o := ?_) (by kernel_rfl) ?_ ?_; rotate_left 1; (simp only [xgA, xgB, xgC]; rfl); intro K hK); go_simp; (refine (CA.out wd HD0.out).mono ?_); rintro e_ w5 ⟨ga, rfl, hga, hka, e2⟩; go_wp2_with (fail); (try clear hSn); (have hSn := hHeld.ext e2); (refine hK.out _ _ (fun _ => hSn) ?_); clear hK K; (try simp only [Act.put, xgD, xgE, xgF]))
 ((refine wpAnyU_one 5 (o := ?_) (by kernel_rfl) ?_ ?_; rotate_left 1; (simp only [xgA, xgB, xgC]; rfl); intro K hK); go_simp; (refine (CB.out w5 (HD0.out.trans e2)).mono ?_); rintro e_ w6 ⟨gb, rfl, hgb, hkb, e5⟩; go_wp2_with (fail); (try clear hSn); (have hSn := hHeld.ext (e2.trans e5)); (refine hK.out _ _ (fun _ => hSn) ?_); clear hK K; (try simp only [Act.put, xgD, xgE, xgF]))
 (refine tkB [6, 7] ?_; (iterate 2 (refine tk1 (oi := ?_) (v := ?_) (by kernel_rfl) (by first | exact hSn | exact hHeld) ?_ ?_ ?_ ?_ ?_; rotate_left 2; (simp only [xgA, xgB, xgC]; rfl); rfl; (intro wS hSw; obtain ⟨⟨A0, A1, A2, A3⟩, B0, B1, B2, B3⟩ := hSw; go_simp; try with_reducible rfl); (exact fun _ _ _ h => h); (try simp only [Act.put, xgD, xgE, xgF]))); refine tkE ?_)
 refine wpAnyU_done (by kernel_rfl) ?_ _
 have HE6 := Lib.hid (HD0.out.trans (e2.trans e5))
 have HKA := Lib.hid (hka.ext e5)
 have HKB := Lib.hid hkb
 clear hHeld hSn e2 e5 HPd HD0 HB1 HE1 CA CB hga hgb hka hkb
 have hm0 : (0 : Int) ≤ (m : Int) := Int.natCast_nonneg _
 have hn0 : (0 : Int) ≤ (n : Int) := Int.natCast_nonneg _
 have hwm : IntKind.i64.wrap ((m : Int) + 1 - 1) = (m : Int) := by rw [IntWalk.i64_in _ (by have := HMN.out; omega)]; omega
 have hwn : IntKind.i64.wrap ((n : Int) + 1 - 1) = (n : Int) := by rw [IntWalk.i64_in _ (by have := HMN.out; omega)]; omega
 obtain ⟨hi1, hi2, hi3, hm64, hn64⟩ := mnC HMN.out
 go_wp2_with (fail)
 clear hi1 hi2 hi3
 obtain ⟨⟨hs64, ht64, hu64, hj64⟩, hmj64, hnj64, hmk64, hnk64⟩ := mnB HMN.out
 have HQ1 := Lib.hid hmj64
 have HQ2 := Lib.hid hnj64
 have HQ3 := Lib.hid hmk64
 have HQ4 := Lib.hid hnk64
 clear hmj64 hnj64 hmk64 hnk64
 simp only [hs64, ht64, hu64, hj64]
 have HMB6 : Hid (Mb M w6) := HM.out.ext HE6.out
 obtain ⟨i0, hi, hz0, hz1, hz2⟩ := info_parts Tryz.info3
 have HD := mnD HMN.out
 refine (sr_down w6 ((m : Int) + n - j - 1) ((j : Int) + 1) c HD.1 HD.2.1 HD.2.2).mono ?_
 rintro e w7 ⟨pa, pc, rfl, hP, e7⟩
 clear hs64 ht64 hu64 hj64 hm64 hn64 HD hwm hwn hm0 hn0
 obtain ⟨zt, hzt⟩ : ∃ zt : Int, zt = (m : Int) + n - j - 1 := ⟨_, rfl⟩
 rw [← hzt] at hP
 have HZT := Lib.hid hzt
 clear hzt
 have hO5 := hP.ext ((Ext.refl _).alloc (.cells #[.int .i64 (i : Int)] 3))
 have hB5 := Blk.of_arr w7 #[.int .i64 (i : Int)] 3 1 rfl
 have HONE := Lib.hid (one_int (i : Int))
 have HEA := Lib.hid (e7.trans ((Ext.refl w7).alloc (.cells #[.int .i64 (i : Int)] 3)))
 have HPL := Lib.hid hP.lt
 have hcb : c ≤ 1000 := by have := HMN.out; omega
 have hbs : w6.heap.size ≤ w7.heap.size := e7.size
 clear hP e7
 go_wp2_with (at_builtin; refine wpList_append_fn _ rfl (.tmp 59) (.tmp 61) _ rfl w6.heap.size 3 i0 _ 1 8 Tryz.underlying84 hi hz0 hz1 hz2 rfl (by omega) (.slice pa c pc) c (dnf zt) rfl hO5 w7.heap.size 3 1 (arr #[.int .i64 (i : Int)]) rfl hB5 HONE.out ?s1 ?s2 ?s3 ?_)
 case s1 => unfold maxLen; omega
 case s2 => omega
 case s3 => first | omega | (simp; omega)
 intro gp cp w8 hO6 hg6 hat hlt6
 have hX8 : Ext w6 w8 := HEA.out.grown hg6 fun q hq => (HPL.out q hq).1
 obtain ⟨N, hN⟩ : ∃ N, N = c + 1 := ⟨_, rfl⟩
 have HP8 := Lib.hid (Own.num (f := pwM zt c (i : Int)) (hO6.congr fun q hq => pwM_app _ _ _ _ hq))
 rw [← hN] at HP8
 have HE8 := Lib.hid (HE6.out.trans hX8)
 have HKA8 := Lib.hid (HKA.out.ext hX8)
 have HKB8 := Lib.hid (HKB.out.ext hX8)
 have HMB8 := Lib.hid (HMB6.out.ext hX8)
 have HPW : Hid (∀ q, q < N → -10000 ≤ pwM zt c (i : Int) q ∧ pwM zt c (i : Int) q ≤ 10000) := fun q hq => by have := HMN.out; have := HZT.out; unfold pwM; split <;> omega
 have HNC := Lib.hid hN
 clear hO6 hg6 hat hO5 hB5 HEA HPL HE6 HKA HKB HMB6 hbs hX8 HONE hi hz0 hz1 hz2 hlt6 hcb
 rw [← hN]
 clear hN
 go_wp2_with (fail)
 simp only [HQ2.out, HQ4.out]
 refine (sr_down w8 ((n : Int) - (j : Int) - 1) 0 (n - j) (by have := HMN.out; omega) (by have := HMN.out; omega) (fun k _ => by have := HMN.out; omega)).mono ?_
 rintro e w9 ⟨sa, sc, rfl, hS, e9⟩
 have HS := Lib.hid (Own.num (f := fun q => (n : Int) - j - 1 - (q : Int)) hS)
 have HP9 := Lib.hid (HP8.out.ext e9)
 have HE9 := Lib.hid (HE8.out.trans e9)
 have HKA9 := Lib.hid (HKA8.out.ext e9)
 have HKB9 := Lib.hid (HKB8.out.ext e9)
 have HMB9 := Lib.hid (HMB8.out.ext e9)
 clear hS e9 HE8 HKA8 HKB8 HMB8 HP8
 obtain ⟨nj, hnj⟩ : ∃ nj, nj = n - j := ⟨_, rfl⟩
 obtain ⟨mj, hmj⟩ : ∃ mj, mj = m - j := ⟨_, rfl⟩
 rw [← hnj] at HS ⊢
 have HNJ := Lib.hid hnj
 have HMJ := Lib.hid hmj
 clear hnj hmj
 go_wp2_with (fail)
 refine (sr_rows M w9 J (m + 1) ga f (some ⟨gp, 0, none⟩) sa N cp nj sc (pwM zt c (i : Int)) (fun q => (n : Int) - j - 1 - (q : Int)) HMB9.out HKA9.out HP9.out HS.out (by have := HMN.out; have := HNC.out; omega) (by have := HMN.out; have := HNJ.out; omega) (by have := HMN.out; omega) HPW.out (fun q hq => by have := HMN.out; have := HNJ.out; show -10000 ≤ (n : Int) - j - 1 - (q : Int) ∧ (n : Int) - j - 1 - (q : Int) ≤ 10000; omega) HZF.out).mono ?_
 rintro e w10 ⟨ra, rc, rfl, hR, e10⟩
 have HR10 := Lib.hid hR
 have HE10 := Lib.hid (HE9.out.trans e10)
 have HX10 := Lib.hid e10
 have HP10 := Lib.hid (HP9.out.ext e10)
 clear hR e10 HP9 HS HKA9
 go_wp2_with (fail)
 simp only [HQ1.out, HQ3.out]
 refine (sr_down w10 ((m : Int) - (j : Int) - 1) 0 mj (by have := HMN.out; have := HMJ.out; omega) (by have := HMN.out; omega) (fun k _ => by have := HMN.out; have := HMJ.out; omega)).mono ?_
 rintro e w11 ⟨ta, tc, rfl, hT, e11⟩
 have HT := Lib.hid (Own.num (f := fun q => (m : Int) - j - 1 - (q : Int)) hT)
 have HR11 := Lib.hid (HR10.out.ext e11)
 have HE11 := Lib.hid (HE10.out.trans e11)
 have HP11 := Lib.hid (HP10.out.ext e11)
 have HLT : Hid (∀ q, (Value.slice ra nj rc).ownBlock = some q → w9.heap.size ≤ q ∧ q < w11.heap.size) := fun q hq => by
  obtain ⟨gs, cs, hO, _⟩ := HR11.out
  exact hO.lt q hq
 have HMR : Hid (Mb (MR M (.slice ra nj rc)) w11) := fun q hq => hq.elim (fun h => (HMB9.out.ext (HX10.out.trans e11)) q h) fun h => (HLT.out q h).2
 have HKB11 := Lib.hid ((HKB9.out.more (M' := MR M (.slice ra nj rc)) fun b hb => hb.imp id fun h => (HLT.out b h).1).ext (HX10.out.trans e11))
 have HS11 : Hid (w9.heap.size ≤ w11.heap.size) := (HX10.out.trans e11).size
 clear hT e11 HE10 HP10 HR10 HKB9 HMB9 HX10
 go_wp2_with (fail)
 refine (sr_rows (MR M (.slice ra nj rc)) w11 J (n + 1) gb g (some ⟨gp, 0, none⟩) ta N cp mj tc (pwM zt c (i : Int)) (fun q => (m : Int) - j - 1 - (q : Int)) HMR.out HKB11.out HP11.out HT.out (by have := HMN.out; have := HNC.out; omega) (by have := HMN.out; have := HMJ.out; omega) (by have := HMN.out; omega) HPW.out (fun q hq => by have := HMN.out; have := HMJ.out; show -10000 ≤ (m : Int) - j - 1 - (q : Int) ∧ (m : Int) - j - 1 - (q : Int) ≤ 10000; omega) HZG.out).mono ?_
 rintro e w12 ⟨ua, uc, rfl, hU, e12⟩
 have hR12 := HR11.out.ext e12
 have HE12 := Lib.hid (HE11.out.trans e12)
 have HS12 : Hid (w11.heap.size ≤ w12.heap.size) := e12.size
 have HB9 : Hid (w.heap.size ≤ w9.heap.size) := HE9.out.size
 have hSS : nj + mj ≤ 10000 := by have := HMN.out; have := HNJ.out; have := HMJ.out; omega
 clear e12 HE11 HP11 HT HR11 HKB11 HMR
 go_wp2_with (at_builtin; refine wpList_append_mat _ rfl (.tmp 70) (.tmp 78) _ Tryz.underlying36 rfl M w9.heap.size w11.heap.size (.slice ra nj rc) (.slice ua mj uc) nj mj N _ _ rfl rfl hR12 hU HS11.out (fun q hq => (HLT.out q hq).2) HS12.out hSS ?_)
 intro va vc w13 hV hg13
 have HF : Hid (RetMn M w J m n j c (i : Int) f g (.returned (.tuple #[.slice va (nj + mj) vc, .int .i64 0])) w13) := by
  have h1 := HNJ.out
  have h2 := HMJ.out
  have h3 := HNC.out
  have h4 := HZT.out
  subst h1 h2 h3 h4
  exact ⟨va, vc, rfl, ⟨_, HB9.out, hV⟩, HE12.out.grown hg13 fun q hq => Nat.le_trans HB9.out (HLT.out q hq).1⟩
 clear hV hg13 hU hR12 HE12 HS12 HS11 HLT HE9 HB9
 go_wp2
 exact bodyPost_ret (v := .tuple #[.slice va (nj + mj) vc, .int .i64 0]) (by simp [results, Tryz.results11, go_sem]) rfl HF.out
end Go.Proofs.YtpclggidcmmemaaGreat

namespace Go.Proofs.YtpclggidcmmemaaGreat
open Go.RowKit

theorem ck_negI {J : Nat} (h1 : 1 ≤ J) (h4 : J ≤ 4) {l : List Tm} (nl : NN l) {e : Int} (he : e < 0) : Sim (ck J e l) [] := fun m => by
 rw [ck_coef h1 h4]
 split
 ·rename_i h0
  refine nl _ ?_
  cases hq : (Mo.add m (xp J e)).nn with
  | false => rfl
  | true =>
   have := nn_get hq J
   rw [get_add, h0, get_xp J J _ h1 h4, if_pos rfl] at this
   omega
 ·rfl
set_option maxRecDepth 100000 in
set_option maxHeartbeats 8000000 in
theorem mv_CoefN (M : Nat → Prop) (x : PE) (l : List Tm) (J : Nat) (i : Int) (B : Nat) (w : World) (h1 : 1 ≤ J) (h4 : J ≤ 4) (hi : i < 0) (nl : NN l) (hM : Mb M w) (h : PI M w x l) (hB : Deg B l) (hB4 : (B + 1) ^ 4 ≤ 1099511627776) (hB2 : B + 1 ≤ 1073741824) (hR : dlen (nrm l) ≤ 1099511627776) : Calls Tryz.prog 76 #[.agg (peA x), .int .i64 (J : Int), .int .i64 i] w (RetX M w 4 (ck J i l)) := by
 obtain ⟨hE0, hX0, hB0, hM0⟩ := box1 hM x
 have CC := Lib.hid (mv_Coefs _ x l (J : Int) B _ hM0 ((h.more (M' := Mx M w.heap.size (w.heap.size + 2)) (Mx.more (Nat.le_refl _))).ext hE0) hB hB4 hB2 hR)
 have HE := Lib.hid hE0
 have HB := Lib.hid hB0
 have HS : Hid (Sim [] (ck J i l)) := (ck_negI h1 h4 nl hi).symm
 obtain ⟨x0, x1, x2, x3⟩ := hX0
 clear hE0 hB0 hM0 hM h hB hB4 hR hB2 h1 h4 nl
 go_enter Tryz.func76, Tryz.ntmps76
 go_wp2_with (fail)
 refine CC.out.mono ?_
 rintro e w1 ⟨hr, he1⟩
 have HE1 := Lib.hid (HE.out.trans he1)
 have hB1 := HB.out.ext he1
 clear he1 CC x0 x1 x2 x3 HB HE
 obtain ⟨a, n, cap, rfl⟩ : ∃ a n cap, e = .returned (.slice a n cap) := by
  rcases hr with ⟨hz, rfl⟩ | ⟨hz, hl, g, rfl, hg, hk⟩ | ⟨hz, K, n, g, hKJ, hK1, hK4, rfl, hg, hd, hk⟩ <;> exact ⟨_, _, _, rfl⟩
 obtain ⟨⟨q0, q1, q2, q3⟩, ⟨f0, f1, f2, f3⟩, ⟨r0, r1, r2, r3⟩, HF⟩ := retX (M := M) (M' := Mx M w.heap.size (w.heap.size + 2)) (w := w) (L := 4) (l := ck J i l) (y := PE.z) hB1 (Mx.at (by omega)) (by omega) HE1.out (CRx.sim (CR.zero _ _ 4) HS.out) Mx.sub
 simp only [PE.z] at r0 r1 r2 r3 q0 q1 q2 q3
 have HF2 := Lib.hid HF.out
 clear HF hB1 hr
 go_wp2
 exact bodyPost_ret (v := .agg (peA PE.z)) (by simp [results, Tryz.results76, go_sem, r0, r1, r2, r3, PE.z]) rfl HF2.out
theorem mv_CoefI (M : Nat → Prop) (x : PE) (l : List Tm) (J : Nat) (i : Int) (B : Nat) (w : World) (h1 : 1 ≤ J) (h4 : J ≤ 4) (nl : NN l) (hM : Mb M w) (h : PI M w x l) (hB : Deg B l) (hB4 : (B + 1) ^ 4 ≤ 1099511627776) (hB2 : B + 1 ≤ 1073741824) (hR : dlen (nrm l) ≤ 1099511627776) : Calls Tryz.prog 76 #[.agg (peA x), .int .i64 (J : Int), .int .i64 i] w (RetX M w 4 (ck J i l)) := by
 by_cases hi : i < 0
 ·exact mv_CoefN M x l J i B w h1 h4 hi nl hM h hB hB4 hB2 hR
 ·obtain ⟨n, rfl⟩ : ∃ n : Nat, i = (n : Int) := ⟨i.toNat, by omega⟩
  exact mv_CoefV M x l J n B w h1 h4 nl hM h hB hB4 hB2 hR
set_option maxRecDepth 100000 in
set_option maxHeartbeats 32000000 in
theorem sr_MinorA (M : Nat → Prop) (w : World) (x y : PE) (J m n : Nat) (j i : Int) (f g : List Tm) (hM : Mb M w) (hm : m ≤ 100) (hn : n ≤ 100) (hji : i < 0 ∨ j < i ∨ min (m : Int) (n : Int) ≤ j)
  (H : ∀ wk, Ext w wk → Calls Tryz.prog 44 #[.agg (peA x), .agg (peA y), .int .i64 (J : Int)] wk fun e w' => e = .returned (.int .i64 0) ∧ Ext wk w')
  (HA : ∀ wk, Ext w wk → Calls Tryz.prog 45 #[.agg (peA x), .int .i64 (J : Int)] wk (RetCV M wk J m f))
  (HB : ∀ wk, Ext w wk → Calls Tryz.prog 45 #[.agg (peA y), .int .i64 (J : Int)] wk (RetCV M wk J n g)) :
  Calls Tryz.prog 11 #[.agg (peA x), .agg (peA y), .int .i64 (J : Int), .int .i64 j, .int .i64 i] w (RetNo w 1) := by
 have hE := ((Ext.refl w).alloc (.cells (peA x) 33)).alloc (.cells (peA y) 33)
 have hBx := new_px2S w x y
 generalize hW : (w.alloc (.cells (peA x) 33)).alloc (.cells (peA y) 33) = W at *
 have HW := Lib.hid hW
 have HE := Lib.hid hE
 have HBX : Hid (SBr w.heap.size x y W) := hBx
 have HH := Lib.hid H
 have CA := Lib.hid HA
 have CB := Lib.hid HB
 have HMN : Hid (m ≤ 100 ∧ n ≤ 100) := ⟨hm, hn⟩
 have HJI := Lib.hid hji
 clear hE hBx hW hM H HA HB hm hn hji
 go_enter Tryz.func11, Tryz.ntmps11
 go_upto_region 1 with (fail)
 rw [HW.out]
 obtain ⟨g0, hg0⟩ : ∃ g0, g0 = w.heap.size := ⟨_, rfl⟩
 rw [← hg0] at HBX ⊢
 clear hg0 HW
 obtain ⟨⟨x0, x1, x2, x3⟩, y0, y1, y2, y3⟩ := HBX.out
 go_wp2_with (fail)
 refine (HH.out W HE.out).mono ?_
 rintro e w1 ⟨rfl, e1⟩
 have HB1 := Lib.hid (HBX.out.ext e1)
 have HE1 := Lib.hid (HE.out.trans e1)
 clear x0 x1 x2 x3 y0 y1 y2 y3 HBX HE e1 HH
 go_upto_region 4 with (fail)
 have HPd : Hid (SBr g0 x y w1.drew) := HB1.out.ext (Ext.refl _).drew
 have HD0 : Hid (Ext w w1.drew) := HE1.out.trans (Ext.refl _).drew
 refine wp_region_u (SBr g0 x y) 8 (by kernel_rfl) HPd.out (fun hHeld => ?_)
 generalize w1.drew = wd at *
 (refine tkB [0, 1, 3, 4] ?_; (iterate 4 (refine tk1 (oi := ?_) (v := ?_) (by kernel_rfl) (by first | exact hSn | exact hHeld) ?_ ?_ ?_ ?_ ?_; rotate_left 2; (simp only [xgA, xgB, xgC]; rfl); rfl; (intro wS hSw; obtain ⟨⟨A0, A1, A2, A3⟩, B0, B1, B2, B3⟩ := hSw; go_simp; try with_reducible rfl); (exact fun _ _ _ h => h); (try simp only [Act.put, xgD, xgE, xgF]))); refine tkE ?_)
 ((refine wpAnyU_one 2 (o := ?_) (by kernel_rfl) ?_ ?_; rotate_left 1; (simp only [xgA, xgB, xgC]; rfl); intro K hK); go_simp; (refine (CA.out wd HD0.out).mono ?_); rintro e_ w5 ⟨ga, rfl, hga, hka, e2⟩; go_wp2_with (fail); (try clear hSn); (have hSn := hHeld.ext e2); (refine hK.out _ _ (fun _ => hSn) ?_); clear hK K; (try simp only [Act.put, xgD, xgE, xgF]))
 ((refine wpAnyU_one 5 (o := ?_) (by kernel_rfl) ?_ ?_; rotate_left 1; (simp only [xgA, xgB, xgC]; rfl); intro K hK); go_simp; (refine (CB.out w5 (HD0.out.trans e2)).mono ?_); rintro e_ w6 ⟨gb, rfl, hgb, hkb, e5⟩; go_wp2_with (fail); (try clear hSn); (have hSn := hHeld.ext (e2.trans e5)); (refine hK.out _ _ (fun _ => hSn) ?_); clear hK K; (try simp only [Act.put, xgD, xgE, xgF]))
 (refine tkB [6, 7] ?_; (iterate 2 (refine tk1 (oi := ?_) (v := ?_) (by kernel_rfl) (by first | exact hSn | exact hHeld) ?_ ?_ ?_ ?_ ?_; rotate_left 2; (simp only [xgA, xgB, xgC]; rfl); rfl; (intro wS hSw; obtain ⟨⟨A0, A1, A2, A3⟩, B0, B1, B2, B3⟩ := hSw; go_simp; try with_reducible rfl); (exact fun _ _ _ h => h); (try simp only [Act.put, xgD, xgE, xgF]))); refine tkE ?_)
 refine wpAnyU_done (by kernel_rfl) ?_ _
 have HF : Hid (RetNo w 1 (.returned (.tuple #[.slice none 0 0, .int .i64 1])) w6) := ⟨rfl, HD0.out.trans (e2.trans e5)⟩
 clear hHeld hSn e2 e5 HPd HD0 HB1 HE1 CA CB hga hgb hka hkb
 have hm0 : (0 : Int) ≤ (m : Int) := Int.natCast_nonneg _
 have hn0 : (0 : Int) ≤ (n : Int) := Int.natCast_nonneg _
 have hwm : IntKind.i64.wrap ((m : Int) + 1 - 1) = (m : Int) := by rw [IntWalk.i64_in _ (by have := HMN.out; omega)]; omega
 have hwn : IntKind.i64.wrap ((n : Int) + 1 - 1) = (n : Int) := by rw [IntWalk.i64_in _ (by have := HMN.out; omega)]; omega
 have hm64 : wrap64 (m : Int) = (m : Int) := wr64 _ (by have := HMN.out; omega)
 have hn64 : wrap64 (n : Int) = (n : Int) := wr64 _ (by have := HMN.out; omega)
 by_cases h1 : i < 0
 ·go_wp2
  exact bodyPost_ret (v := .tuple #[.slice none 0 0, .int .i64 1]) (by simp [results, Tryz.results11, go_sem]) rfl HF.out
 ·by_cases h2 : j < i
  ·go_wp2
   exact bodyPost_ret (v := .tuple #[.slice none 0 0, .int .i64 1]) (by simp [results, Tryz.results11, go_sem]) rfl HF.out
  ·have h3 : min (m : Int) (n : Int) ≤ j := by have := HJI.out; omega
   go_wp2
   exact bodyPost_ret (v := .tuple #[.slice none 0 0, .int .i64 1]) (by simp [results, Tryz.results11, go_sem]) rfl HF.out
end Go.Proofs.YtpclggidcmmemaaGreat
