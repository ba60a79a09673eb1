/- SubresultantScale: factors without the variable, plain; the calls. Arguments of the type [2]sparse.Poly. SubresultantScale: the walk. The law SubresultantScale returns true at every input, without a panic, and leaves its arguments as they were; no conditions. -/
import Derived.Test.YtjhhekmfdhfjpaaGreatTa
import Derived.Test.YtjhhekmfdhfjpaaGreatDl
import Derived.Test.YtjhhekmfdhfjpaaGreatDr
import Derived.Test.YtjhhekmfdhfjpaaGreatDk
import Derived.Test.YtjhhekmfdhfjpaaGreatMq
set_option linter.unusedVariables false
set_option linter.unusedSimpArgs false

namespace Go.Proofs.YtjhhekmfdhfjpaaGreat
open Go.ChangeShapes Go.WideShapes Go.ChangeAt Go.RowKit Go.Deep

section
variable {H : Type} {enc : TypeId × Value → H} {W : World}
set_option linter.constructorNameAsVariable false in
set_option maxRecDepth 10000 in
theorem open_poly2 {base : Nat} {v : Value} {d : DataW H} {ps : List MemPlace} (hv : Value.okWide Tryz.prog W .any base 42 v) (h : DataW.Trod enc Tryz.prog W 0 (fun _ => true) true 42 v d ps) : ∃ a n c X a' n' c' X', v = .agg #[.slice a n c, .slice a' n' c'] ∧ PRaw W a n c X ∧ PRaw W a' n' c' X' := by
 obtain ⟨fuel, h⟩ := h
 have hu := Tryz.underlying42
 unfold Value.okWide at hv
 rw [hu] at hv
 obtain ⟨cs, rfl, hcs, _⟩ := hv
 rw [show Tryz.prog.cellsOf 42 = 2 by kernel_rfl] at hcs
 obtain ⟨v0, v1, rfl⟩ : ∃ v0 v1, cs = #[v0, v1] := by
  obtain ⟨l⟩ := cs
  match l, hcs with
  | [v0, v1], _ => exact ⟨v0, v1, rfl⟩
 have h' : DataW.trod enc Tryz.prog W 0 (fun _ => true) true fuel 42 [v0, v1] = some (d, ps) := h
 obtain ⟨xs, q, _, _, _, hxl, hx⟩ := DataW.trod_array hu h'
 have hce : Tryz.prog.cellsOf 23 = 1 := by kernel_rfl
 rw [hce] at hx
 have key : ∀ i, i < 2 → ∃ y, DataW.trod enc Tryz.prog W 0 (fun _ => true) true q 23 (([v0, v1].drop (i * 1)).take 1) = some y := fun i hi => by
  rw [hx i hi, List.getElem?_eq_getElem (by omega)]; exact ⟨_, rfl⟩
 obtain ⟨y0, e0⟩ := key 0 (by omega)
 obtain ⟨y1, e1⟩ := key 1 (by omega)
 obtain ⟨a, n, c, X, rfl, h1⟩ := open_polyI (v := v0) e0
 obtain ⟨a', n', c', X', rfl, h2⟩ := open_polyI (v := v1) e1
 exact ⟨a, n, c, X, a', n', c', X', rfl, h1, h2⟩
end
theorem dgr0_fre' {J : Nat} {l : List Tm} (nl : NN l) (h : DgR J l 0) : Fre J l := fun m hm => by
 have h1 := h.1 m hm
 have hnn : m.nn = true := by
  cases hq : m.nn with
  | true => rfl
  | false => exact absurd (nl m hq) hm
 have := nn_get hnn J
 omega
theorem sj_scale {J : Nat} (h1 : 1 ≤ J) (h4 : J ≤ 4) {f g c d : List Tm} (nf : NN f) (ng : NN g) (nc : NN c) (nd : NN d) (fc : Fre J c) (fd : Fre J d) (j m n : Nat) : Sim (SJ J j m n (pmul c f) (pmul d g)) (pmul (SJ J j m n f g) (pmul (ppow c (n - j)) (ppow d (m - j)))) := by
 have nS := nn_SJ h1 h4 nf ng j m n
 refine sim_ev (nn_SJ h1 h4 (nn_pm nc nf) (nn_pm nd ng) _ _ _) (nn_pm nS (nn_pm (nn_pp nc _) (nn_pp nd _))) fun x => ?_
 rw [ev_SJ h1 h4 x (nn_pm nc nf) (nn_pm nd ng), dS_mul (pv_mul h1 h4 nc fc nf x) (pv_mul h1 h4 nd fd ng x), ← ev_SJ h1 h4 x nf ng, ev_pmul x nS (nn_pm (nn_pp nc _) (nn_pp nd _)), ev_pmul x (nn_pp nc _) (nn_pp nd _), ev_pp x nc, ev_pp x nd]
 ac_rfl
structure ScC (W : World) (x y u v : PE) (f g c d : List Tm) (er dm dn : Int) (N m n : Nat) (F G : Nat → List Tm) : Prop where
 c1 : ∀ wk, Ext W wk → Calls Tryz.prog 11 #[.agg (peA x), .agg (peA y), .int .i64 2] wk (RetLi M0 wk N F er)
 m1 : ∀ wk, Ext W wk → Calls Tryz.prog 17 #[.agg (peA u), .agg (peA x)] wk (RetX M0 wk 4 (pmul c f))
 m2 : ∀ wk, Ext W wk → Calls Tryz.prog 17 #[.agg (peA v), .agg (peA y)] wk (RetX M0 wk 4 (pmul d g))
 c2 : ∀ wk p q, CRx M0 wk 4 p (pmul c f) → CRx M0 wk 4 q (pmul d g) → Calls Tryz.prog 11 #[.agg (peA p), .agg (peA q), .int .i64 2] wk (RetLi M0 wk N G er)
 cd : ∀ wk, Ext W wk → Calls Tryz.prog 12 #[.agg (peA x), .agg (peA y), .int .i64 2] wk fun e w' => e = .returned (.agg #[.int .i64 dm, .int .i64 dn]) ∧ Ext wk w'
 N6 : N ≤ 6
 p1 : ∀ k : Nat, k ≤ 6 → ∀ wk, Ext W wk → Calls Tryz.prog 18 #[.agg (peA u), .int .i64 (k : Int)] wk (RetX M0 wk 4 (ppow c k))
 p2 : ∀ k : Nat, k ≤ 6 → ∀ wk, Ext W wk → Calls Tryz.prog 18 #[.agg (peA v), .int .i64 (k : Int)] wk (RetX M0 wk 4 (ppow d k))
 pm : ∀ k l : Nat, k ≤ 6 → l ≤ 6 → ∀ wk p q, CRx M0 wk 4 p (ppow c k) → CRx M0 wk 4 q (ppow d l) → Calls Tryz.prog 17 #[.agg (peA p), .agg (peA q)] wk (RetX M0 wk 4 (pmul (ppow c k) (ppow d l)))
 fm : ∀ j k l : Nat, j < N → k ≤ 6 → l ≤ 6 → ∀ wk p q, CRx M0 wk 4 p (F j) → CRx M0 wk 4 q (pmul (ppow c k) (ppow d l)) → Calls Tryz.prog 17 #[.agg (peA p), .agg (peA q)] wk (RetX M0 wk 4 (pmul (F j) (pmul (ppow c k) (ppow d l))))
 fin : ∀ j, j < N → dm = m ∧ dn = n ∧ j ≤ m ∧ j ≤ n ∧ m ≤ 6 ∧ n ≤ 6 ∧ Sim (G j) (pmul (F j) (pmul (ppow c (n - j)) (ppow d (m - j))))
theorem scC_of {f g c d : List Tm} (hf : SmD 2 f) (hg : SmD 2 g) (hc : SmD 1 c) (hd : SmD 1 d) (zc : ¬ Sim c []) (zd : ¬ Sim d []) (dc : DgR 2 c 0) (dd : DgR 2 d 0) (x y u v : PE) (W : World) (hx : CRx M0 W 4 x f) (hy : CRx M0 W 4 y g) (hu : CRx M0 W 4 u c) (hv : CRx M0 W 4 v d) : ∃ er dm dn N m n F G, ScC W x y u v f g c d er dm dn N m n F G := by
 obtain ⟨dm, hdm⟩ := deg_any f hf.nn x W hx 2
 obtain ⟨dn, hdn⟩ := deg_any g hg.nn y W hy 2
 have hD : ∀ wk, Ext W wk → Calls Tryz.prog 12 #[.agg (peA x), .agg (peA y), .int .i64 2] wk fun e w' => e = .returned (.agg #[.int .i64 dm, .int .i64 dn]) ∧ Ext wk w' := fun wk he => law_degrees wk x y 2 dm dn (fun wl hl => hdm wl (he.trans hl)) fun wl hl => hdn wl (he.trans hl)
 have sc : Sz 1 5 c := ⟨hc.nn, hc.deg, hc.dl⟩
 have sd : Sz 1 5 d := ⟨hd.nn, hd.deg, hd.dl⟩
 have hm1 : ∀ wk, Ext W wk → Calls Tryz.prog 17 #[.agg (peA u), .agg (peA x)] wk (RetX M0 wk 4 (pmul c f)) := fun wk he => rp_Mul M0 u x c f 1 2 wk (mb0 _) (hu.ext he).pi (hx.ext he).pi (Nat.le_trans (Nat.add_le_add hc.dl hf.dl) (by decide)) hc.deg hf.deg (by decide)
 have hm2 : ∀ wk, Ext W wk → Calls Tryz.prog 17 #[.agg (peA v), .agg (peA y)] wk (RetX M0 wk 4 (pmul d g)) := fun wk he => rp_Mul M0 v y d g 1 2 wk (mb0 _) (hv.ext he).pi (hy.ext he).pi (Nat.le_trans (Nat.add_le_add hd.dl hg.dl) (by decide)) hd.deg hg.deg (by decide)
 have hp1 : ∀ k : Nat, k ≤ 6 → ∀ wk, Ext W wk → Calls Tryz.prog 18 #[.agg (peA u), .int .i64 (k : Int)] wk (RetX M0 wk 4 (ppow c k)) := fun k hk wk he => pw_okW sc (by omega) (by omega) (by omega) M0 wk u (mb0 _) (hu.ext he)
 have hp2 : ∀ k : Nat, k ≤ 6 → ∀ wk, Ext W wk → Calls Tryz.prog 18 #[.agg (peA v), .int .i64 (k : Int)] wk (RetX M0 wk 4 (ppow d k)) := fun k hk wk he => pw_okW sd (by omega) (by omega) (by omega) M0 wk v (mb0 _) (hv.ext he)
 have hpm : ∀ k l : Nat, k ≤ 6 → l ≤ 6 → ∀ wk p q, CRx M0 wk 4 p (ppow c k) → CRx M0 wk 4 q (ppow d l) → Calls Tryz.prog 17 #[.agg (peA p), .agg (peA q)] wk (RetX M0 wk 4 (pmul (ppow c k) (ppow d l))) := fun k l hk hl wk p q hp hq => ml_okW (sz_pow (k := k) sc) (sz_pow (k := l) sd) (by omega) (by omega) (by omega) (by omega) M0 wk p q (mb0 _) hp hq
 by_cases hz : Sim f [] ∨ Sim g []
 ·have h0 : ∀ (x y : PE) (f g : List Tm) wk, (Sim f [] ∨ Sim g []) → CRx M0 wk 4 x f → CRx M0 wk 4 y g → Calls Tryz.prog 11 #[.agg (peA x), .agg (peA y), .int .i64 2] wk (RetLi M0 wk 0 (fun _ => []) 2) := fun x y f g wk hz hx hy =>
   (chain_no M0 x y 2 2 wk (mb0 _) (by decide) (fun _ => []) (fun _ => []) fun wl he => (sr_check M0 f g x y 2 wl (mb0 _) (hx.ext he).pi (hy.ext he).pi).mono fun e w' h => by
    obtain ⟨er, rfl, hc, he'⟩ := h
    rcases hc with ⟨h, _⟩ | ⟨_, _, rfl⟩ | ⟨_, h1, h2, _⟩
    ·exact absurd ⟨by decide, by decide⟩ h
    ·exact ⟨rfl, he'⟩
    ·exact absurd hz fun hh => hh.elim h1 h2).1 wk (Ext.refl _)
  have hz2 : Sim (pmul c f) [] ∨ Sim (pmul d g) [] := hz.imp (fun h => by have := h.pmul_right c; rwa [pmul_nil] at this) fun h => by have := h.pmul_right d; rwa [pmul_nil] at this
  exact ⟨2, dm, dn, 0, 0, 0, fun _ => [], fun _ => [], fun wk he => h0 x y f g wk hz (hx.ext he) (hy.ext he), hm1, hm2, fun wk p q hp hq => h0 p q _ _ wk hz2 hp hq, hD, by omega, hp1, hp2, hpm, fun j _ _ hj => absurd hj (Nat.not_lt_zero _), fun j hj => absurd hj (Nat.not_lt_zero _)⟩
 ·have zf : ¬ Sim f [] := fun h => hz (.inl h)
  have zg : ¬ Sim g [] := fun h => hz (.inr h)
  obtain ⟨m, hm⟩ := dgr_exi (k := 2) hf.nn
  obtain ⟨n, hn⟩ := dgr_exi (k := 2) hg.nn
  have hm2' : m ≤ 2 := dg_le hm hf.deg
  have hn2 : n ≤ 2 := dg_le hn hg.deg
  have hsz : ∀ l c : List Tm, SmD 2 l → SmD 1 c → Sz 3 1000 (pmul c l) := fun l c hl hc => ⟨nn_pm hc.nn hl.nn, Deg.pmul hc.deg hl.deg hc.nn, by
   rw [nrm_pmul]
   exact Nat.le_trans (dlen_mul _ _) (Nat.le_trans (Nat.add_le_add hc.dl hl.dl) (by decide))⟩
  have H : Gn 2 m n 3 f g := ⟨by decide, by decide, ⟨hf.nn, hf.deg.mono (by omega), Nat.le_trans hf.dl (by decide)⟩, ⟨hg.nn, hg.deg.mono (by omega), Nat.le_trans hg.dl (by decide)⟩, zf, zg, hm, hn, by omega, by omega, fun h => ok33 m (by omega) n h, fun h => ok33 n (by omega) m h⟩
  have e1 : DgR 2 (pmul c f) m := by have := dgr_prod (by decide) (by decide) hc.nn hf.nn zc zf dc hm; rwa [Nat.zero_add] at this
  have e2 : DgR 2 (pmul d g) n := by have := dgr_prod (by decide) (by decide) hd.nn hg.nn zd zg dd hn; rwa [Nat.zero_add] at this
  have H' : Gn 2 m n 3 (pmul c f) (pmul d g) := ⟨by decide, by decide, hsz f c hf hc, hsz g d hg hd, pmul_ne hc.nn hf.nn zc zf, pmul_ne hd.nn hg.nn zd zg, e1, e2, by omega, by omega, fun h => ok33 m (by omega) n h, fun h => ok33 n (by omega) m h⟩
  have f1 : Fre 2 c := dgr0_fre' hc.nn dc
  have f2 : Fre 2 d := dgr0_fre' hd.nn dd
  refine ⟨0, m, n, min m n, m, n, fun j => SJ 2 j m n f g, fun j => SJ 2 j m n (pmul c f) (pmul d g), fun wk he => H.chain M0 x y wk (mb0 _) (hx.ext he) (hy.ext he), hm1, hm2, fun wk p q hp hq => H'.chain M0 p q wk (mb0 _) hp hq, fun wk he => law_degrees wk x y 2 m n (fun wl hl => H.degf M0 x wl (mb0 _) (hx.ext (he.trans hl))) fun wl hl => H.swap.degf M0 y wl (mb0 _) (hy.ext (he.trans hl)), by omega, hp1, hp2, hpm, fun j k l hj hk hl wk p q hp hq => ?_, fun j hj => ⟨rfl, rfl, by omega, by omega, by omega, by omega, sj_scale (by decide) (by decide) hf.nn hg.nn hc.nn hd.nn f1 f2 j m n⟩⟩
  have s1 := sz_mul (sz_pow (k := k) sc) (sz_pow (k := l) sd)
  exact ml_okW (H.bound (by omega) (by omega)) s1 (by omega) (by omega) (by omega) (by omega) M0 wk p q (mb0 _) hp hq
theorem S7.newA {wd wk : World} {B : Option Nat} (h : S7 wd wk none B) : ∃ v g, wk.alloc (.cells zA 32) = v ∧ wk.heap.size = g ∧ S7 wd v (some g) B ∧ ∀ (x : PE) (l : List Tm), CRx (M7 none B) wk 4 x l → CRx (M7 (some g) B) v 4 x l := ⟨_, _, rfl, rfl, h.allA, fun _ _ k => h.keepA k⟩
theorem S7.newB {wd wk : World} {A : Option Nat} (h : S7 wd wk A none) : ∃ v g, wk.alloc (.cells zA 32) = v ∧ wk.heap.size = g ∧ S7 wd v A (some g) ∧ ∀ (x : PE) (l : List Tm), CRx (M7 A none) wk 4 x l → CRx (M7 A (some g)) v 4 x l := ⟨_, _, rfl, rfl, h.allB, fun _ _ k => h.keepB k⟩
theorem S7.swap {wd wk : World} {A B : Option Nat} (h : S7 wd wk A B) : S7 wd wk B A := ⟨h.e, h.b, h.a, fun g hb ha => h.ne g ha hb⟩
theorem CRx.swap7 {w : World} {A B : Option Nat} {x : PE} {l : List Tm} (h : CRx (M7 A B) w 4 x l) : CRx (M7 B A) w 4 x l := h.more fun g hg => .inl (hg.elim .inr .inl)
def S2s (g : Nat) (a : Option Addr) (n p : Nat) (b : Option Addr) (m q : Nat) (w : World) : Prop := (w.cell? ⟨g, 0, none⟩ = some (.slice a n p) ∧ w.cell? ⟨g, 1, none⟩ = some (.slice b m q)) ∧ g < w.heap.size
theorem S2s.ext {g : Nat} {a : Option Addr} {n p : Nat} {b : Option Addr} {m q : Nat} {w w' : World} (h : S2s g a n p b m q w) (he : Ext w w') : S2s g a n p b m q w' := ⟨⟨by rw [he.cell h.2]; exact h.1.1, by rw [he.cell h.2]; exact h.1.2⟩, Nat.lt_of_lt_of_le h.2 he.size⟩
def ScCut (c d : List Tm) (wd : World) (s10 s11 : Value) (wx : World) : Prop := ∃ (a b : Nat) (zc zd : PE), s10 = .pointer (some ⟨a, 0, none⟩) ∧ s11 = .pointer (some ⟨b, 0, none⟩) ∧ Put2 wd wx a b zc zd c d
theorem Put2.extS {wd W W' : World} {a b : Nat} {x y : PE} {l r : List Tm} (h : Put2 wd W a b x y l r) (he : Ext W W') : Put2 wd W' a b x y l r := ⟨h.e.trans he, h.p.ext he, h.q.ext he, h.x.ext he, h.y.ext he⟩
def SKQ (ga gb o gd gc ge : Nat) (za zb u v : PE) (dm dn : Int) (w : World) : Prop := SKD ga gb o gd za zb dm dn w ∧ P4 w gc u ∧ P4 w ge v
theorem SKQ.ext {ga gb o gd gc ge : Nat} {za zb u v : PE} {dm dn : Int} {w w' : World} (h : SKQ ga gb o gd gc ge za zb u v dm dn w) (he : Ext w w') : SKQ ga gb o gd gc ge za zb u v dm dn w' := ⟨h.1.ext he, h.2.1.ext he, h.2.2.ext he⟩
def SB4 (g ga gb : Nat) (x y u v : PE) (w : World) : Prop := SBr g x y w ∧ P4 w ga u ∧ P4 w gb v
theorem SB4.ext {g ga gb : Nat} {x y u v : PE} {w w' : World} (h : SB4 g ga gb x y u v w) (he : Ext w w') : SB4 g ga gb x y u v w' := ⟨h.1.ext he, h.2.1.ext he, h.2.2.ext he⟩
end Go.Proofs.YtjhhekmfdhfjpaaGreat

namespace Go.Proofs.YtjhhekmfdhfjpaaGreat
open Go.RowKit

set_option maxRecDepth 100000 in
set_option maxHeartbeats 64000000 in
theorem law_scale (a1 a2 a3 a4 : Option Addr) (n1 p1 n2 p2 n3 p3 n4 p4 : Nat) (X1 X2 X3 X4 : Nat → TE) (w : World) (h1 : PRaw w a1 n1 p1 X1) (h2 : PRaw w a2 n2 p2 X2) (h3 : PRaw w a3 n3 p3 X3) (h4 : PRaw w a4 n4 p4 X4) :
  Calls Tryz.prog 4 #[.slice a1 n1 p1, .slice a2 n2 p2, .agg #[.slice a3 n3 p3, .slice a4 n4 p4]] w fun e w' => e = .returned (.bool true) ∧ Ext w w' := by
 have HR1 := Lib.hid h1
 have HR2 := Lib.hid h2
 have HR3 := Lib.hid h3
 have HR4 := Lib.hid h4
 clear h1 h2 h3 h4
 have hE0 : Ext w (w.alloc (.cells #[.slice a3 n3 p3, .slice a4 n4 p4] 42)) := (Ext.refl w).alloc _
 have hB0 := Blk.of_arr w #[.slice a3 n3 p3, .slice a4 n4 p4] 42 2 rfl
 have HC0 : Hid (S2s w.heap.size a3 n3 p3 a4 n4 p4 (w.alloc (.cells #[.slice a3 n3 p3, .slice a4 n4 p4] 42))) := ⟨⟨hB0.cell (i := 0) (by omega), hB0.cell (i := 1) (by omega)⟩, hB0.lt⟩
 clear hB0
 go_enter Tryz.func4, Tryz.ntmps4
 go_upto_region 1 with (fail)
 generalize w.alloc (.cells #[.slice a3 n3 p3, .slice a4 n4 p4] 42) = W0 at *
 obtain ⟨g5, hg5⟩ : ∃ g5, g5 = w.heap.size := ⟨_, rfl⟩
 rw [← hg5] at HC0 ⊢
 clear hg5
 go_wp2_with (fail)
 refine (law_fitJ _).mono ?_
 rintro e w1 ⟨rfl, he1⟩
 have HE1 := Lib.hid (hE0.trans he1)
 have HC1 := Lib.hid (HC0.out.ext he1)
 have CF1 := Lib.hid (law_few24 a1 n1 p1 X1 4 2 w1 (HR1.out.1.ext HE1.out) HR1.out.2.1)
 have CF2 := Lib.hid (law_few24 a2 n2 p2 X2 4 2 w1 (HR2.out.1.ext HE1.out) HR2.out.2.1)
 have CF3 := Lib.hid (law_few24 a3 n3 p3 X3 2 1 w1 (HR3.out.1.ext HE1.out) HR3.out.2.1)
 have CF4 := Lib.hid (law_few24 a4 n4 p4 X4 2 1 w1 (HR4.out.1.ext HE1.out) HR4.out.2.1)
 rw [show ((4 : Nat) : Int) = 4 from rfl, show ((2 : Nat) : Int) = 2 from rfl] at CF1 CF2
 rw [show ((2 : Nat) : Int) = 2 from rfl, show ((1 : Nat) : Int) = 1 from rfl] at CF3 CF4
 clear he1 hE0 HC0
 obtain ⟨⟨c0, c1⟩, cl⟩ := HC1.out
 go_wp2_with (fail)
 refine CF1.out.mono ?_
 rintro e w2 ⟨b, rfl, hb1, rfl⟩
 cases b with
 | false =>
  clear hb1 CF1 CF2 CF3 CF4
  go_wp2
  go_ret
  exact ⟨rfl, HE1.out⟩
 | true =>
 have HF1 := Lib.hid (hb1.1 rfl)
 clear hb1 CF1
 go_wp2_with (fail)
 refine CF2.out.mono ?_
 rintro e w2 ⟨b, rfl, hb2, rfl⟩
 cases b with
 | false =>
  clear hb2 CF2 CF3 CF4
  go_wp2
  go_ret
  exact ⟨rfl, HE1.out⟩
 | true =>
 have HF2 := Lib.hid (hb2.1 rfl)
 clear hb2 CF2
 go_wp2_with (fail)
 refine CF3.out.mono ?_
 rintro e w2 ⟨b, rfl, hb3, rfl⟩
 cases b with
 | false =>
  clear hb3 CF3 CF4
  go_wp2
  go_ret
  exact ⟨rfl, HE1.out⟩
 | true =>
 have HF3 := Lib.hid (hb3.1 rfl)
 clear hb3 CF3
 go_wp2_with (fail)
 refine CF4.out.mono ?_
 rintro e w2 ⟨b, rfl, hb4, rfl⟩
 cases b with
 | false =>
  clear hb4 CF4
  go_wp2
  go_ret
  exact ⟨rfl, HE1.out⟩
 | true =>
 have HF4 := Lib.hid (hb4.1 rfl)
 clear hb4 CF4 c0 c1 cl
 obtain ⟨l1, hl1, HS1, hd1, hx1⟩ := HR1.out.smD (B := 2) HF1.out (by omega) (by omega)
 obtain ⟨l2, hl2, HS2, hd2, hx2⟩ := HR2.out.smD (B := 2) HF2.out (by omega) (by omega)
 obtain ⟨l3, hl3, HS3, hd3, hx3⟩ := HR3.out.smD (B := 1) HF3.out (by omega) (by omega)
 obtain ⟨l4, hl4, HS4, hd4, hx4⟩ := HR4.out.smD (B := 1) HF4.out (by omega) (by omega)
 have hlD1 := hl1.ext HE1.out
 have hlD2 := hl2.ext HE1.out
 have hlD3 := hl3.ext HE1.out
 have hlD4 := hl4.ext HE1.out
 have HS1 := Lib.hid HS1
 have HS2 := Lib.hid HS2
 have HS3 := Lib.hid HS3
 have HS4 := Lib.hid HS4
 have CO1 : Hid (Calls Tryz.prog 10 #[.slice a1 n1 p1] w1 (RetX M0 w1 4 (norm l1))) := rp_Of M0 _ l1 w1 (mb0 _) hlD1 hd1 hx1
 have CO2 : Hid (∀ W, Ext w1 W → Calls Tryz.prog 10 #[.slice a2 n2 p2] W (RetX M0 W 4 (norm l2))) := fun W h => rp_Of M0 _ l2 W (mb0 _) (hlD2.ext h) hd2 hx2
 have CO3 : Hid (∀ W, Ext w1 W → ∀ A B wk, S7 W wk A B → Calls Tryz.prog 10 #[.slice a3 n3 p3] wk (RetX (M7 A B) wk 4 (norm l3))) := fun W h A B wk hS => rp_Of _ _ l3 wk hS.mb (((hlD3.ext h).more fun g hg => .inr (hS.lt g hg).1).ext hS.e) hd3 hx3
 have CO4 : Hid (∀ W, Ext w1 W → ∀ A B wk, S7 W wk A B → Calls Tryz.prog 10 #[.slice a4 n4 p4] wk (RetX (M7 A B) wk 4 (norm l4))) := fun W h A B wk hS => rp_Of _ _ l4 wk hS.mb (((hlD4.ext h).more fun g hg => .inr (hS.lt g hg).1).ext hS.e) hd4 hx4
 clear hl1 hd1 hx1 hl2 hd2 hx2 HF1 HF2 HR1 HR2 hlD1 hlD2 hl3 hd3 hx3 HF3 HR3 hlD3 hl4 hd4 hx4 HF4 HR4 hlD4
 generalize norm l1 = f at *
 generalize norm l2 = g at *
 generalize norm l3 = c at *
 generalize norm l4 = d at *
 go_wp2_with (fail)
 refine CO1.out.mono ?_
 rintro e w2 ⟨x, rfl, hx, e2⟩
 have HX2 := Lib.hid hx
 have HE2 := Lib.hid e2
 clear hx e2 CO1
 go_wp2_with (fail)
 refine (CO2.out w2 HE2.out).mono ?_
 rintro e w3 ⟨y, rfl, hy, e3⟩
 have HX3 := Lib.hid (HX2.out.ext e3)
 have HY3 := Lib.hid hy
 have HE13 := Lib.hid (HE2.out.trans e3)
 clear HX2 hy e3 CO2 HE2
 go_upto_region 7 with (fail)
 obtain ⟨W, hW⟩ : ∃ W, W = (w3.alloc (.cells #[.int .i64 x.lv, .bool x.b, .slice x.a x.n x.p, .slice x.ka x.kn x.kp] 32)).alloc (.cells #[.int .i64 y.lv, .bool y.b, .slice y.a y.n y.p, .slice y.ka y.kn y.kp] 32) := ⟨_, rfl⟩
 have hEW : Ext w3 W := by rw [hW]; exact ((Ext.refl w3).alloc _).alloc _
 obtain ⟨g0, hg0⟩ : ∃ g0, g0 = w3.heap.size := ⟨_, rfl⟩
 have HSB : Hid (SBr g0 x y W) := by rw [hW, hg0]; exact new_px2S w3 x y
 have HX := Lib.hid (HX3.out.ext hEW)
 have HY := Lib.hid (HY3.out.ext hEW)
 have HE1W := Lib.hid (HE13.out.trans hEW)
 have HE := Lib.hid (HE1.out.trans HE1W.out)
 have HCW := Lib.hid (HC1.out.ext HE1W.out)
 rw [← hW, ← hg0]
 clear hW hg0 hEW HX3 HY3 HE13 HE1 HC1
 have HDW : Hid (Ext W W.drew) := (Ext.refl _).drew
 go_cut [10, 11] (ScCut c d W.drew)
 case first =>
  have CC := Lib.hid (CO3.out W.drew (HE1W.out.trans HDW.out))
  have CD := Lib.hid (CO4.out W.drew (HE1W.out.trans HDW.out))
  have S0 := S7.start W.drew
  have HS7 : Hid (S2s g5 a3 n3 p3 a4 n4 p4 W.drew) := HCW.out.ext HDW.out
  refine wp_region_u (S2s g5 a3 n3 p3 a4 n4 p4) 10 (by kernel_rfl) HS7.out (fun hHeld => ?_)
  clear HS7 HX HY HS1 HS2 HS3 HS4 HE HCW CO3 CO4 HE1W HDW HSB
  generalize W.drew = wd at *
  (refine tkB [0, 1, 3, 4] ?_; (iterate 4 (refine tk1 (oi := ?_) (v := ?_) (by kernel_rfl) (by first | exact hSn | exact hHeld) ?_ ?_ ?_ ?_ ?_; rotate_left 2; (simp only [xgA, xgB, xgC]; rfl); rfl; (intro wS hSw; obtain ⟨⟨A0, A1⟩, A2⟩ := hSw; go_simp; try with_reducible rfl); (exact fun _ _ _ h => h); (try simp only [Act.put, xgD, xgE, xgF]))); refine tkE ?_)
  have SX := S0
  clear S0
  (refine wpAnyU_thr 2 6 7 (oi := ?_) (oj := ?_) (ok := ?_) (by kernel_rfl) ?_ ?_ ?_ ?_ ?_ ?_; rotate_left 3; (simp only [xgA, xgB, xgC]; rfl); (simp only [xgA, xgB, xgC]; rfl); (simp only [xgA, xgB, xgC]; rfl); all_goals intro K hK)
  all_goals (first | (go_simp; refine (CC.out _ _ _ SX).mono ?_; rintro e v ⟨zc, rfl, hc, D⟩; go_wp2_with (fail); replace SX := SX.call D; (try replace hd := hd.ext D); clear D; (try clear hSn); have hSn := hHeld.ext SX.e; refine hK.out _ _ (fun _ => hSn) ?_; clear hK K; (try simp only [Act.put, xgD, xgE, xgF])) | (go_simp; refine (CD.out _ _ _ SX).mono ?_; rintro e v ⟨zd, rfl, hd, D⟩; go_wp2_with (fail); replace SX := SX.call D; (try replace hc := hc.ext D); clear D; (try clear hSn); have hSn := hHeld.ext SX.e; refine hK.out _ _ (fun _ => hSn) ?_; clear hK K; (try simp only [Act.put, xgD, xgE, xgF])) | (go_simp; (first | obtain ⟨v, g, hv, hg, SX, hkp⟩ := SX.newA | obtain ⟨v, g, hv, hg, SX, hkp⟩ := SX.newB); (try replace hc := hkp _ _ hc); (try replace hd := hkp _ _ hd); rw [hv, hg]; clear hv hg hkp; (try clear hSn); have hSn := hHeld.ext SX.e; refine hK.out _ _ (fun _ => hSn) ?_; clear hK K; (try simp only [Act.put, xgD, xgE, xgF])))
  focus (refine wpAnyU_thr 5 6 7 (oi := ?_) (oj := ?_) (ok := ?_) (by kernel_rfl) ?_ ?_ ?_ ?_ ?_ ?_; rotate_left 3; (simp only [xgA, xgB, xgC]; rfl); (simp only [xgA, xgB, xgC]; rfl); (simp only [xgA, xgB, xgC]; rfl); all_goals intro K hK)
  rotate_left 3
  focus (refine wpAnyU_two 2 7 (oi := ?_) (oj := ?_) (by kernel_rfl) ?_ ?_ ?_ ?_; rotate_left 2; (simp only [xgA, xgB, xgC]; rfl); (simp only [xgA, xgB, xgC]; rfl); all_goals intro K hK)
  rotate_left 2
  focus (refine wpAnyU_two 2 6 (oi := ?_) (oj := ?_) (by kernel_rfl) ?_ ?_ ?_ ?_; rotate_left 2; (simp only [xgA, xgB, xgC]; rfl); (simp only [xgA, xgB, xgC]; rfl); all_goals intro K hK)
  rotate_left 2
  all_goals (first | (go_simp; refine (CC.out _ _ _ SX).mono ?_; rintro e v ⟨zc, rfl, hc, D⟩; go_wp2_with (fail); replace SX := SX.call D; (try replace hd := hd.ext D); clear D; (try clear hSn); have hSn := hHeld.ext SX.e; refine hK.out _ _ (fun _ => hSn) ?_; clear hK K; (try simp only [Act.put, xgD, xgE, xgF])) | (go_simp; refine (CD.out _ _ _ SX).mono ?_; rintro e v ⟨zd, rfl, hd, D⟩; go_wp2_with (fail); replace SX := SX.call D; (try replace hc := hc.ext D); clear D; (try clear hSn); have hSn := hHeld.ext SX.e; refine hK.out _ _ (fun _ => hSn) ?_; clear hK K; (try simp only [Act.put, xgD, xgE, xgF])) | (go_simp; (first | obtain ⟨v, g, hv, hg, SX, hkp⟩ := SX.newA | obtain ⟨v, g, hv, hg, SX, hkp⟩ := SX.newB); (try replace hc := hkp _ _ hc); (try replace hd := hkp _ _ hd); rw [hv, hg]; clear hv hg hkp; (try clear hSn); have hSn := hHeld.ext SX.e; refine hK.out _ _ (fun _ => hSn) ?_; clear hK K; (try simp only [Act.put, xgD, xgE, xgF])))
  focus (refine wpAnyU_two 6 7 (oi := ?_) (oj := ?_) (by kernel_rfl) ?_ ?_ ?_ ?_; rotate_left 2; (simp only [xgA, xgB, xgC]; rfl); (simp only [xgA, xgB, xgC]; rfl); all_goals intro K hK)
  rotate_left 2
  focus (refine wpAnyU_two 5 7 (oi := ?_) (oj := ?_) (by kernel_rfl) ?_ ?_ ?_ ?_; rotate_left 2; (simp only [xgA, xgB, xgC]; rfl); (simp only [xgA, xgB, xgC]; rfl); all_goals intro K hK)
  rotate_left 2
  focus (refine wpAnyU_two 5 6 (oi := ?_) (oj := ?_) (by kernel_rfl) ?_ ?_ ?_ ?_; rotate_left 2; (simp only [xgA, xgB, xgC]; rfl); (simp only [xgA, xgB, xgC]; rfl); all_goals intro K hK)
  rotate_left 2
  focus (refine wpAnyU_two 5 7 (oi := ?_) (oj := ?_) (by kernel_rfl) ?_ ?_ ?_ ?_; rotate_left 2; (simp only [xgA, xgB, xgC]; rfl); (simp only [xgA, xgB, xgC]; rfl); all_goals intro K hK)
  rotate_left 2
  focus (refine wpAnyU_one 2 (o := ?_) (by kernel_rfl) ?_ ?_; rotate_left 1; (simp only [xgA, xgB, xgC]; rfl); intro K hK)
  rotate_left 1
  focus (refine wpAnyU_two 5 6 (oi := ?_) (oj := ?_) (by kernel_rfl) ?_ ?_ ?_ ?_; rotate_left 2; (simp only [xgA, xgB, xgC]; rfl); (simp only [xgA, xgB, xgC]; rfl); all_goals intro K hK)
  rotate_left 2
  focus (refine wpAnyU_one 2 (o := ?_) (by kernel_rfl) ?_ ?_; rotate_left 1; (simp only [xgA, xgB, xgC]; rfl); intro K hK)
  rotate_left 1
  all_goals (first | (go_simp; refine (CC.out _ _ _ SX).mono ?_; rintro e v ⟨zc, rfl, hc, D⟩; go_wp2_with (fail); replace SX := SX.call D; (try replace hd := hd.ext D); clear D; (try clear hSn); have hSn := hHeld.ext SX.e; refine hK.out _ _ (fun _ => hSn) ?_; clear hK K; (try simp only [Act.put, xgD, xgE, xgF])) | (go_simp; refine (CD.out _ _ _ SX).mono ?_; rintro e v ⟨zd, rfl, hd, D⟩; go_wp2_with (fail); replace SX := SX.call D; (try replace hc := hc.ext D); clear D; (try clear hSn); have hSn := hHeld.ext SX.e; refine hK.out _ _ (fun _ => hSn) ?_; clear hK K; (try simp only [Act.put, xgD, xgE, xgF])) | (go_simp; (first | obtain ⟨v, g, hv, hg, SX, hkp⟩ := SX.newA | obtain ⟨v, g, hv, hg, SX, hkp⟩ := SX.newB); (try replace hc := hkp _ _ hc); (try replace hd := hkp _ _ hd); rw [hv, hg]; clear hv hg hkp; (try clear hSn); have hSn := hHeld.ext SX.e; refine hK.out _ _ (fun _ => hSn) ?_; clear hK K; (try simp only [Act.put, xgD, xgE, xgF])))
  focus (refine wpAnyU_one 7 (o := ?_) (by kernel_rfl) ?_ ?_; rotate_left 1; (simp only [xgA, xgB, xgC]; rfl); intro K hK)
  rotate_left 1
  focus (refine wpAnyU_one 6 (o := ?_) (by kernel_rfl) ?_ ?_; rotate_left 1; (simp only [xgA, xgB, xgC]; rfl); intro K hK)
  rotate_left 1
  focus (refine wpAnyU_one 7 (o := ?_) (by kernel_rfl) ?_ ?_; rotate_left 1; (simp only [xgA, xgB, xgC]; rfl); intro K hK)
  rotate_left 1
  focus (refine wpAnyU_one 5 (o := ?_) (by kernel_rfl) ?_ ?_; rotate_left 1; (simp only [xgA, xgB, xgC]; rfl); intro K hK)
  rotate_left 1
  focus (refine wpAnyU_one 6 (o := ?_) (by kernel_rfl) ?_ ?_; rotate_left 1; (simp only [xgA, xgB, xgC]; rfl); intro K hK)
  rotate_left 1
  focus (refine wpAnyU_one 5 (o := ?_) (by kernel_rfl) ?_ ?_; rotate_left 1; (simp only [xgA, xgB, xgC]; rfl); intro K hK)
  rotate_left 1
  focus (refine wpAnyU_one 7 (o := ?_) (by kernel_rfl) ?_ ?_; rotate_left 1; (simp only [xgA, xgB, xgC]; rfl); intro K hK)
  rotate_left 1
  focus (refine wpAnyU_one 5 (o := ?_) (by kernel_rfl) ?_ ?_; rotate_left 1; (simp only [xgA, xgB, xgC]; rfl); intro K hK)
  rotate_left 1
  focus (refine wpAnyU_one 5 (o := ?_) (by kernel_rfl) ?_ ?_; rotate_left 1; (simp only [xgA, xgB, xgC]; rfl); intro K hK)
  rotate_left 1
  focus (refine wpAnyU_one 6 (o := ?_) (by kernel_rfl) ?_ ?_; rotate_left 1; (simp only [xgA, xgB, xgC]; rfl); intro K hK)
  rotate_left 1
  focus (refine wpAnyU_one 5 (o := ?_) (by kernel_rfl) ?_ ?_; rotate_left 1; (simp only [xgA, xgB, xgC]; rfl); intro K hK)
  rotate_left 1
  focus (refine wpAnyU_one 5 (o := ?_) (by kernel_rfl) ?_ ?_; rotate_left 1; (simp only [xgA, xgB, xgC]; rfl); intro K hK)
  rotate_left 1
  all_goals (first | (go_simp; refine (CC.out _ _ _ SX).mono ?_; rintro e v ⟨zc, rfl, hc, D⟩; go_wp2_with (fail); replace SX := SX.call D; (try replace hd := hd.ext D); clear D; (try clear hSn); have hSn := hHeld.ext SX.e; refine hK.out _ _ (fun _ => hSn) ?_; clear hK K; (try simp only [Act.put, xgD, xgE, xgF])) | (go_simp; refine (CD.out _ _ _ SX).mono ?_; rintro e v ⟨zd, rfl, hd, D⟩; go_wp2_with (fail); replace SX := SX.call D; (try replace hc := hc.ext D); clear D; (try clear hSn); have hSn := hHeld.ext SX.e; refine hK.out _ _ (fun _ => hSn) ?_; clear hK K; (try simp only [Act.put, xgD, xgE, xgF])) | (go_simp; (first | obtain ⟨v, g, hv, hg, SX, hkp⟩ := SX.newA | obtain ⟨v, g, hv, hg, SX, hkp⟩ := SX.newB); (try replace hc := hkp _ _ hc); (try replace hd := hkp _ _ hd); rw [hv, hg]; clear hv hg hkp; (try clear hSn); have hSn := hHeld.ext SX.e; refine hK.out _ _ (fun _ => hSn) ?_; clear hK K; (try simp only [Act.put, xgD, xgE, xgF])))
  all_goals (first | (obtain ⟨W1, hW1, ⟨q0, q1, q2, q3⟩, ⟨f0, f1, f2, f3⟩, E1, ⟨r0, r1, r2, r3⟩, ⟨k0, k1, k2, k3⟩, W2, hW2, HP2⟩ := SX.put2 hc hd; unfold set4 at hW1 hW2; have hSn1 := hHeld.ext E1; have hSn2 := hHeld.ext HP2.e; clear hSn; (refine wpAnyU_one 8 (o := ?_) (by kernel_rfl) ?_ ?_; rotate_left 1; (simp only [xgA, xgB, xgC]; rfl); intro K hK); go_simp; rw [← hW1]; clear hW1; refine hK.out _ _ (fun _ => hSn1) ?_; clear hK K q0 q1 q2 q3 f0 f1 f2 f3; (try simp only [Act.put, xgD, xgE, xgF]); (refine wpAnyU_one 9 (o := ?_) (by kernel_rfl) ?_ ?_; rotate_left 1; (simp only [xgA, xgB, xgC]; rfl); intro K hK); go_simp; rw [← hW2]; clear hW2; refine hK.out _ _ (fun _ => hSn2) ?_; clear hK K r0 r1 r2 r3 k0 k1 k2 k3; (try simp only [Act.put, xgD, xgE, xgF]); refine wpAnyU_done (by kernel_rfl) ?_ _; go_wp2_with (fail); go_meet; exact ⟨_, _, zc, zd, rfl, rfl, HP2⟩) | (obtain ⟨W1, hW1, ⟨q0, q1, q2, q3⟩, ⟨f0, f1, f2, f3⟩, E1, ⟨r0, r1, r2, r3⟩, ⟨k0, k1, k2, k3⟩, W2, hW2, HP2⟩ := SX.swap.put2 hc.swap7 hd.swap7; unfold set4 at hW1 hW2; have hSn1 := hHeld.ext E1; have hSn2 := hHeld.ext HP2.e; clear hSn; (refine wpAnyU_one 8 (o := ?_) (by kernel_rfl) ?_ ?_; rotate_left 1; (simp only [xgA, xgB, xgC]; rfl); intro K hK); go_simp; rw [← hW1]; clear hW1; refine hK.out _ _ (fun _ => hSn1) ?_; clear hK K q0 q1 q2 q3 f0 f1 f2 f3; (try simp only [Act.put, xgD, xgE, xgF]); (refine wpAnyU_one 9 (o := ?_) (by kernel_rfl) ?_ ?_; rotate_left 1; (simp only [xgA, xgB, xgC]; rfl); intro K hK); go_simp; rw [← hW2]; clear hW2; refine hK.out _ _ (fun _ => hSn2) ?_; clear hK K r0 r1 r2 r3 k0 k1 k2 k3; (try simp only [Act.put, xgD, xgE, xgF]); refine wpAnyU_done (by kernel_rfl) ?_ _; go_wp2_with (fail); go_meet; exact ⟨_, _, zc, zd, rfl, rfl, HP2⟩))
 case rest =>
  obtain ⟨ga, gb, u, v, rfl, rfl, hput⟩ := hcut
  have HPU := Lib.hid hput
  have HWC := Lib.hid (HDW.out.trans hput.e)
  have HSC := Lib.hid (HSB.out.ext HWC.out)
  have HXC := Lib.hid (HX.out.ext HWC.out)
  have HYC := Lib.hid (HY.out.ext HWC.out)
  have HEC := Lib.hid (HE.out.trans HWC.out)
  clear hput HX HY HE HSB HWC HDW HCW CO3 CO4 HE1W
  have CZ1 : Hid (∀ wk, Ext wc wk → Calls Tryz.prog 15 #[.agg (peA u)] wk fun e w' => ∃ b : Bool, e = .returned (.bool b) ∧ (b = true ↔ Sim c []) ∧ Ext wk w') := fun wk he => rp_IsZero M0 u c wk (mb0 _) (HPU.out.x.ext he).pi
  have CZ2 : Hid (∀ wk, Ext wc wk → Calls Tryz.prog 15 #[.agg (peA v)] wk fun e w' => ∃ b : Bool, e = .returned (.bool b) ∧ (b = true ↔ Sim d []) ∧ Ext wk w') := fun wk he => rp_IsZero M0 v d wk (mb0 _) (HPU.out.y.ext he).pi
  obtain ⟨x0, x1, x2, x3⟩ := HPU.out.p
  obtain ⟨y0, y1, y2, y3⟩ := HPU.out.q
  go_wp2_with (fail)
  refine (CZ1.out wc (Ext.refl _)).mono ?_
  rintro e w6 ⟨b, rfl, hb, e6⟩
  have HE6 := Lib.hid e6
  clear x0 x1 x2 x3 y0 y1 y2 y3 e6 CZ1
  cases b with
  | true =>
   clear hb
   go_wp2
   go_ret
   exact ⟨rfl, HEC.out.trans HE6.out⟩
  | false =>
  have HN1 : Hid (¬ Sim c []) := fun hh => by have := hb.2 hh; cases this
  clear hb
  obtain ⟨x0, x1, x2, x3⟩ := HPU.out.p.ext HE6.out
  obtain ⟨y0, y1, y2, y3⟩ := HPU.out.q.ext HE6.out
  go_wp2_with (fail)
  refine (CZ2.out w6 HE6.out).mono ?_
  rintro e w7 ⟨b, rfl, hb, e7⟩
  have HE7 := Lib.hid (HE6.out.trans e7)
  clear x0 x1 x2 x3 y0 y1 y2 y3 e7 CZ2 HE6
  cases b with
  | true =>
   clear hb
   go_wp2
   go_ret
   exact ⟨rfl, HEC.out.trans HE7.out⟩
  | false =>
  have HN2 : Hid (¬ Sim d []) := fun hh => by have := hb.2 hh; cases this
  clear hb
  obtain ⟨kc, hkc⟩ := dgr_exi (k := 2) HS3.out.nn
  obtain ⟨kd, hkd⟩ := dgr_exi (k := 2) HS4.out.nn
  have CDc : Hid (∀ wk, Ext wc wk → Calls Tryz.prog 16 #[.agg (peA u), .int .i64 2] wk fun e w' => e = .returned (.int .i64 (kc : Int)) ∧ Ext wk w') := fun wk he => mv_DegreeV M0 u c 2 (kc : Int) wk (by decide) (by decide) HS3.out.nn (.inr ⟨HN1.out, kc, hkc, rfl⟩) (mb0 _) (HPU.out.x.ext he).pi
  have CDd : Hid (∀ wk, Ext wc wk → Calls Tryz.prog 16 #[.agg (peA v), .int .i64 2] wk fun e w' => e = .returned (.int .i64 (kd : Int)) ∧ Ext wk w') := fun wk he => mv_DegreeV M0 v d 2 (kd : Int) wk (by decide) (by decide) HS4.out.nn (.inr ⟨HN2.out, kd, hkd, rfl⟩) (mb0 _) (HPU.out.y.ext he).pi
  have HKC := Lib.hid hkc
  have HKD := Lib.hid hkd
  clear hkc hkd
  obtain ⟨x0, x1, x2, x3⟩ := HPU.out.p.ext HE7.out
  obtain ⟨y0, y1, y2, y3⟩ := HPU.out.q.ext HE7.out
  go_wp2_with (fail)
  refine (CDc.out w7 HE7.out).mono ?_
  rintro e w8 ⟨rfl, e8⟩
  have HE8 := Lib.hid (HE7.out.trans e8)
  clear x0 x1 x2 x3 y0 y1 y2 y3 e8 CDc HE7
  by_cases hc0 : kc = 0
  case neg =>
   have hcI : (0 : Int) < (kc : Int) := by omega
   clear hc0
   go_wp2
   go_ret
   exact ⟨rfl, HEC.out.trans HE8.out⟩
  subst hc0
  obtain ⟨x0, x1, x2, x3⟩ := HPU.out.p.ext HE8.out
  obtain ⟨y0, y1, y2, y3⟩ := HPU.out.q.ext HE8.out
  go_wp2_with (fail)
  refine (CDd.out w8 HE8.out).mono ?_
  rintro e w9 ⟨rfl, e9⟩
  have HE9 := Lib.hid (HE8.out.trans e9)
  clear x0 x1 x2 x3 y0 y1 y2 y3 e9 CDd HE8
  by_cases hd0 : kd = 0
  case neg =>
   have hcI : (0 : Int) < (kd : Int) := by omega
   clear hd0
   go_wp2
   go_ret
   exact ⟨rfl, HEC.out.trans HE9.out⟩
  subst hd0
  obtain ⟨er, dm, dn, N, m, n, F, G, HH⟩ := scC_of HS1.out HS2.out HS3.out HS4.out HN1.out HN2.out HKC.out HKD.out x y u v wc HXC.out HYC.out HPU.out.x HPU.out.y
  have HC := Lib.hid HH
  clear HH HS1 HS2 HS3 HS4 HN1 HN2 HKC HKD HXC HYC
  obtain ⟨⟨x0, x1, x2, x3⟩, y0, y1, y2, y3⟩ := HSC.out.ext HE9.out
  go_wp2_with (fail)
  refine (HC.out.c1 w9 HE9.out).mono ?_
  rintro e w10 ⟨v6, rfl, hv6, e10⟩
  obtain ⟨u6, rfl, HA6⟩ := hv6.open
  have HE10 := Lib.hid (HE9.out.trans e10)
  clear x0 x1 x2 x3 y0 y1 y2 y3 hv6 e10 HE9
  go_upto_region 11 with (fail)
  have HS11 : Hid (SB4 g0 ga gb x y u v w10.drew) := ⟨(HSC.out.ext HE10.out).ext (Ext.refl _).drew, (HPU.out.p.ext HE10.out).ext (Ext.refl _).drew, (HPU.out.q.ext HE10.out).ext (Ext.refl _).drew⟩
  have HD11 : Hid (Ext wc w10.drew) := HE10.out.trans (Ext.refl _).drew
  have HD10 : Hid (Ext w10 w10.drew) := (Ext.refl _).drew
  refine wp_region_u (SB4 g0 ga gb x y u v) 13 (by kernel_rfl) HS11.out (fun hHeld => ?_)
  generalize w10.drew = wd at *
  (refine tkB [0, 1, 3, 4, 6] ?_; (iterate 5 (refine tk1 (oi := ?_) (v := ?_) (by kernel_rfl) (by first | exact hSn | exact hHeld) ?_ ?_ ?_ ?_ ?_; rotate_left 2; (simp only [xgA, xgB, xgC]; rfl); rfl; (intro wS hSw; obtain ⟨⟨⟨A0, A1, A2, A3⟩, B0, B1, B2, B3⟩, ⟨C0, C1, C2, C3⟩, D0, D1, D2, D3⟩ := hSw; go_simp; try with_reducible rfl); (exact fun _ _ _ h => h); (try simp only [Act.put, xgD, xgE, xgF]))); refine tkE ?_)
  ((refine wpAnyU_one 2 (o := ?_) (by kernel_rfl) ?_ ?_; rotate_left 1; (simp only [xgA, xgB, xgC]; rfl); intro K hK); go_simp; (refine (HC.out.m1 wd HD11.out).mono ?_); rintro e_ v1 ⟨pu, rfl, hu, d1⟩; go_wp2_with (fail); (try clear hSn); (have hSn := hHeld.ext d1); (refine hK.out _ _ (fun _ => hSn) ?_); clear hK K; (try simp only [Act.put, xgD, xgE, xgF]))
  ((refine wpAnyU_one 5 (o := ?_) (by kernel_rfl) ?_ ?_; rotate_left 1; (simp only [xgA, xgB, xgC]; rfl); intro K hK); go_simp; (refine (HC.out.m2 v1 (HD11.out.trans d1)).mono ?_); rintro e_ v2 ⟨pv', rfl, hv, d2⟩; go_wp2_with (fail); (try clear hSn); (have hSn := hHeld.ext (d1.trans d2)); (refine hK.out _ _ (fun _ => hSn) ?_); clear hK K; (try simp only [Act.put, xgD, xgE, xgF]))
  ((refine wpAnyU_one 7 (o := ?_) (by kernel_rfl) ?_ ?_; rotate_left 1; (simp only [xgA, xgB, xgC]; rfl); intro K hK); go_simp; (refine (HC.out.c2 v2 pu pv' (hu.ext d2) hv).mono ?_); rintro e_ v3 ⟨v7, rfl, hv7, d3⟩; go_wp2_with (fail); (try clear hSn); (have hSn := hHeld.ext ((d1.trans d2).trans d3)); (refine hK.out _ _ (fun _ => hSn) ?_); clear hK K; (try simp only [Act.put, xgD, xgE, xgF]))
  (refine tkB [8, 9, 10, 11, 12] ?_; (iterate 5 (refine tk1 (oi := ?_) (v := ?_) (by kernel_rfl) (by first | exact hSn | exact hHeld) ?_ ?_ ?_ ?_ ?_; rotate_left 2; (simp only [xgA, xgB, xgC]; rfl); rfl; (intro wS hSw; obtain ⟨⟨⟨A0, A1, A2, A3⟩, B0, B1, B2, B3⟩, ⟨C0, C1, C2, C3⟩, D0, D1, D2, D3⟩ := hSw; go_simp; try with_reducible rfl); (exact fun _ _ _ h => h); (try simp only [Act.put, xgD, xgE, xgF]))); refine tkE ?_)
  refine wpAnyU_done (by kernel_rfl) ?_ _
  obtain ⟨u7, rfl, HA7⟩ := hv7.open
  have HE11 := Lib.hid (HD11.out.trans ((d1.trans d2).trans d3))
  have HE1011 := Lib.hid (HD10.out.trans ((d1.trans d2).trans d3))
  have hee : (er == er) = true := beq_self_eq_true _
  clear hHeld hSn d1 d2 d3 hu hv hv7 HS11 HD11 HD10 HE10
  obtain ⟨⟨x0, x1, x2, x3⟩, y0, y1, y2, y3⟩ := HSC.out.ext HE11.out
  go_wp2_with (fail)
  refine (HC.out.cd v3 HE11.out).mono ?_
  rintro e w12 ⟨rfl, he12⟩
  have HE12 := Lib.hid (HE11.out.trans he12)
  have HE712 := Lib.hid he12
  clear x0 x1 x2 x3 y0 y1 y2 y3 he12 HE11 hee
  go_upto_region 15 with (fail)
  have hB15 := Blk.of_arr w12 #[.int .i64 dm, .int .i64 dn] 37 2 rfl
  obtain ⟨W15, hW15⟩ : ∃ W15, W15 = w12.alloc (.cells #[.int .i64 dm, .int .i64 dn] 37) := ⟨_, rfl⟩
  have hE15 : Ext w12 W15 := by rw [hW15]; exact (Ext.refl _).alloc _
  rw [← hW15] at hB15 ⊢
  obtain ⟨g15, hg15⟩ : ∃ g15, g15 = w12.heap.size := ⟨_, rfl⟩
  rw [← hg15] at hB15 ⊢
  have q0 := hB15.cell (i := 0) (by omega)
  have q1 := hB15.cell (i := 1) (by omega)
  change W15.cell? ⟨g15, 0, none⟩ = some (.int .i64 dm) at q0
  change W15.cell? ⟨g15, 1, none⟩ = some (.int .i64 dn) at q1
  have HQ : Hid ((W15.cell? ⟨g15, 0, none⟩ = some (.int .i64 dm) ∧ W15.cell? ⟨g15, 1, none⟩ = some (.int .i64 dn)) ∧ g15 < W15.heap.size) := ⟨⟨q0, q1⟩, hB15.lt⟩
  have HE15 := Lib.hid (HE12.out.trans hE15)
  have HA6F : Hid (0 < N → ∃ gl : Nat, u6 = some ⟨gl, 0, none⟩ ∧ Kids (fun b => M0 b ∨ b = gl) W15 4 gl N F) := fun hi => by
   obtain ⟨gl, h1, h2⟩ := HA6.out hi
   exact ⟨gl, h1, h2.ext (HE1011.out.trans (HE712.out.trans hE15))⟩
  have HA7F : Hid (0 < N → ∃ gl : Nat, u7 = some ⟨gl, 0, none⟩ ∧ Kids (fun b => M0 b ∨ b = gl) W15 4 gl N G) := fun hi => by
   obtain ⟨gl, h1, h2⟩ := HA7.out hi
   exact ⟨gl, h1, h2.ext (HE712.out.trans hE15)⟩
  have hN6 := HC.out.N6
  clear hB15 hW15 hg15 hE15 HE12 HA6 HA7 HE1011 HE712 q0 q1
  go_wp2
  go_loopw [102] (fun iv wr => ∃ j : Nat, j ≤ N ∧ iv = .int .i64 (j : Int) ∧ Hid (Ext W15 wr)) (fun iv _ => N - (intOf iv).toNat)
  case atStart => exact ⟨0, Nat.zero_le _, rfl, Ext.refl _⟩
  case round =>
   obtain ⟨j, hj, rfl, HER⟩ := hrel
   have hj0 : (0 : Int) ≤ (j : Int) := Int.natCast_nonneg _
   by_cases hjN : j < N
   ·have hjI : (j : Int) < (N : Int) := by omega
    obtain ⟨hdm, hdn, hjm, hjn, hm6, hn6, hsim⟩ := HC.out.fin j hjN
    obtain ⟨la, rfl, hka⟩ := HA6F.out (by omega)
    obtain ⟨lb, rfl, hkb⟩ := HA7F.out (by omega)
    obtain ⟨za, hza, hxa⟩ := hka.cel j hjN
    obtain ⟨zb, hzb, hxb⟩ := hkb.cel j hjN
    have HXA : Hid (CRx M0 wr 4 za (F j)) := (hxa.more fun b hb => .inl (.inl hb)).ext HER.out
    have HXB : Hid (CRx M0 wr 4 zb (G j)) := (hxb.more fun b hb => .inl (.inl hb)).ext HER.out
    have HED : Hid (Ext wc wr.drew) := HE15.out.trans (HER.out.trans (Ext.refl _).drew)
    have HSR : Hid (SKQ la lb (j * 4) g15 ga gb za zb u v dm dn wr.drew) := SKQ.ext ⟨⟨⟨hza, hka.lt⟩, ⟨hzb, hkb.lt⟩, HQ.out⟩, HPU.out.p.ext HE15.out, HPU.out.q.ext HE15.out⟩ (HER.out.trans (Ext.refl _).drew)
    have HSIM := Lib.hid hsim
    have HDR : Hid (Ext wr wr.drew) := (Ext.refl _).drew
    have HJN : Hid (j < N) := hjN
    subst hdm
    subst hdn
    obtain ⟨a, ha⟩ : ∃ a, a = m - j := ⟨_, rfl⟩
    obtain ⟨b, hb⟩ : ∃ b, b = n - j := ⟨_, rfl⟩
    rw [← ha, ← hb] at HSIM
    have hw1 : IntKind.i64.wrap ((m : Int) - (j : Int)) = (a : Int) := by rw [IntWalk.i64_in _ (by omega)]; omega
    have hw2 : IntKind.i64.wrap ((n : Int) - (j : Int)) = (b : Int) := by rw [IntWalk.i64_in _ (by omega)]; omega
    have HAB : Hid (a ≤ 6 ∧ b ≤ 6) := ⟨by omega, by omega⟩
    clear ha hb hjm hjn hm6 hn6 hsim hka hkb hza hxa hzb hxb hj
    go_upto_region 18 with (fail)
    refine wp_region_u (SKQ la lb (j * 4) g15 ga gb za zb u v (m : Int) (n : Int)) 24 (by kernel_rfl) HSR.out (fun hHeld => ?_)
    generalize wr.drew = wd at *
    (refine tkB [0, 1, 2, 3, 4, 5, 6, 7, 8, 9, 10, 11, 12, 14, 15, 16, 17, 18] ?_; (iterate 18 (refine tk1 (oi := ?_) (v := ?_) (by kernel_rfl) (by first | exact hSn | exact hHeld) ?_ ?_ ?_ ?_ ?_; rotate_left 2; (simp only [xgA, xgB, xgC]; rfl); rfl; (intro wS hSw; obtain ⟨⟨⟨⟨A0, A1, A2, A3⟩, A4⟩, ⟨⟨B0, B1, B2, B3⟩, B4⟩, ⟨C0, C1⟩, C2⟩, ⟨D0, D1, D2, D3⟩, E0, E1, E2, E3⟩ := hSw; go_simp; try with_reducible rfl); (exact fun _ _ _ h => h); (try simp only [Act.put, xgD, xgE, xgF]))); refine tkE ?_)
    ((refine wpAnyU_one 13 (o := ?_) (by kernel_rfl) ?_ ?_; rotate_left 1; (simp only [xgA, xgB, xgC]; rfl); intro K hK); go_simp; (refine (HC.out.p1 b HAB.out.2 wd HED.out).mono ?_); rintro e_ v1 ⟨t1, rfl, ht1, e1⟩; go_wp2_with (fail); (try clear hSn); (have hSn := hHeld.ext e1); (refine hK.out _ _ (fun _ => hSn) ?_); clear hK K; (try simp only [Act.put, xgD, xgE, xgF]))
    ((refine wpAnyU_one 19 (o := ?_) (by kernel_rfl) ?_ ?_; rotate_left 1; (simp only [xgA, xgB, xgC]; rfl); intro K hK); go_simp; (refine (HC.out.p2 a HAB.out.1 v1 (HED.out.trans e1)).mono ?_); rintro e_ v2 ⟨t2, rfl, ht2, e2⟩; go_wp2_with (fail); (try clear hSn); (have hSn := hHeld.ext (e1.trans e2)); (refine hK.out _ _ (fun _ => hSn) ?_); clear hK K; (try simp only [Act.put, xgD, xgE, xgF]))
    ((refine wpAnyU_one 20 (o := ?_) (by kernel_rfl) ?_ ?_; rotate_left 1; (simp only [xgA, xgB, xgC]; rfl); intro K hK); go_simp; (refine (HC.out.pm b a HAB.out.2 HAB.out.1 v2 t1 t2 (ht1.ext e2) ht2).mono ?_); rintro e_ v3' ⟨t3, rfl, ht3, e3⟩; go_wp2_with (fail); (try clear hSn); (have hSn := hHeld.ext ((e1.trans e2).trans e3)); (refine hK.out _ _ (fun _ => hSn) ?_); clear hK K; (try simp only [Act.put, xgD, xgE, xgF]))
    ((refine wpAnyU_one 21 (o := ?_) (by kernel_rfl) ?_ ?_; rotate_left 1; (simp only [xgA, xgB, xgC]; rfl); intro K hK); go_simp; (refine (HC.out.fm j b a HJN.out HAB.out.2 HAB.out.1 v3' za t3 (HXA.out.ext (HDR.out.trans ((e1.trans e2).trans e3))) ht3).mono ?_); rintro e_ v4 ⟨t4, rfl, ht4, e4⟩; go_wp2_with (fail); (try clear hSn); (have hSn := hHeld.ext (((e1.trans e2).trans e3).trans e4)); (refine hK.out _ _ (fun _ => hSn) ?_); clear hK K; (try simp only [Act.put, xgD, xgE, xgF]))
    have CS := Lib.hid (same_b zb t4 (G j) (pmul (F j) (pmul (ppow c b) (ppow d a))) v4 true (HXB.out.ext (HDR.out.trans (((e1.trans e2).trans e3).trans e4))).pi ht4.pi ⟨fun _ => HSIM.out, fun _ => rfl⟩)
    ((refine wpAnyU_one 22 (o := ?_) (by kernel_rfl) ?_ ?_; rotate_left 1; (simp only [xgA, xgB, xgC]; rfl); intro K hK); go_simp; (refine (CS.out).mono ?_); rintro e_ v5 ⟨rfl, e5⟩; go_wp2_with (fail); (try clear hSn); (have hSn := hHeld.ext ((((e1.trans e2).trans e3).trans e4).trans e5)); (refine hK.out _ _ (fun _ => hSn) ?_); clear hK K; (try simp only [Act.put, xgD, xgE, xgF]))
    (refine tkB [23] ?_; (iterate 1 (refine tk1 (oi := ?_) (v := ?_) (by kernel_rfl) (by first | exact hSn | exact hHeld) ?_ ?_ ?_ ?_ ?_; rotate_left 2; (simp only [xgA, xgB, xgC]; rfl); rfl; (intro wS hSw; obtain ⟨⟨⟨⟨A0, A1, A2, A3⟩, A4⟩, ⟨⟨B0, B1, B2, B3⟩, B4⟩, ⟨C0, C1⟩, C2⟩, ⟨D0, D1, D2, D3⟩, E0, E1, E2, E3⟩ := hSw; go_simp; try with_reducible rfl); (exact fun _ _ _ h => h); (try simp only [Act.put, xgD, xgE, xgF]))); refine tkE ?_)
    refine wpAnyU_done (by kernel_rfl) ?_ _
    have HEV := Lib.hid (HER.out.trans (HDR.out.trans ((((e1.trans e2).trans e3).trans e4).trans e5)))
    clear hHeld hSn e1 e2 e3 e4 e5 ht1 ht2 ht3 ht4 CS HSR HDR HXA HXB HER HED hw1 hw2
    go_wp2
    go_roundw
    case rel => exact ⟨j + 1, HJN.out, by go_num, HEV.out⟩
    case measure => have := HJN.out; simp [intOf]; omega
   ·have hjI : ¬ (j : Int) < (N : Int) := by omega
    have HF := Lib.hid (HEC.out.trans (HE15.out.trans HER.out))
    clear HER hj hjN
    go_wp2
    go_ret
    exact ⟨rfl, HF.out⟩
end Go.Proofs.YtjhhekmfdhfjpaaGreat

namespace Go.Proofs.YtjhhekmfdhfjpaaGreat
open Go.ChangeShapes Go.WideShapes Go.ChangeAt Go.RowKit Go.Deep

namespace subresultantScale
theorem own : ownKnob Tryz.prog.godebug = none := by kernel_rfl
set_option maxRecDepth 100000 in
theorem contract (H : Type) (enc : TypeId × Value → H) (W : World) (base : Nat) (args : Array Value) (ds gs : List (DataW H)) (before : List MemPlace)
  (hval : ∀ (j : Nat) t v, Tryz.f4.params[j]? = some t → args[j]? = some v → Value.okWide Tryz.prog W .any base t v)
  (hW : DataW.Whole enc Tryz.prog Tryz.f4.params.toList Rows.subresultantScaleSpec.vars false W args.toList ds gs before) :
  Calls Tryz.prog 4 args W fun e W' => ∃ v, e = .returned v ∧ Rows.subresultantScaleSpec.post enc Tryz.prog Tryz.f4 false true false false W args v W' := by
 have hW' := hW
 obtain ⟨p, q, hA0, hV, rfl, hfz, hnd⟩ := hW
 have hA : DataW.TrodAll enc Tryz.prog W 0 (fun _ => true) true Tryz.f4.params.toList args.toList ds p := hA0
 rw [Tryz.params4] at hA hval
 obtain ⟨v0, vs0, d0, ds0, p0, q0, hargs, rfl, rfl, h0, r0⟩ := trodAll_cons hA
 obtain ⟨v1, vs1, d1, ds1, p1, q1, rfl, rfl, rfl, h1, r1⟩ := trodAll_cons r0
 obtain ⟨v2, vs2, d2, ds2, p2, q2, rfl, rfl, rfl, h2, r2⟩ := trodAll_cons r1
 obtain ⟨rfl, rfl, rfl⟩ := trodAll_nil r2
 obtain rfl : args = #[v0, v1, v2] := by cases args; simp_all
 obtain ⟨rfl, rfl⟩ := trodVars_none hV
 obtain ⟨a0, n0, c0, X0, rfl, g0⟩ := open_poly (hval 0 23 v0 rfl rfl) h0
 obtain ⟨a1, n1, c1, X1, rfl, g1⟩ := open_poly (hval 1 23 v1 rfl rfl) h1
 obtain ⟨a2, n2, c2, X2, b2, k2, e2, Y2, rfl, g2, f2⟩ := open_poly2 (hval 2 42 v2 rfl rfl) h2
 refine (law_scale a0 a1 a2 b2 n0 c0 n1 c1 n2 c2 k2 e2 X0 X1 X2 Y2 W g0 g1 g2 f2).mono fun e W' ⟨he, hg⟩ => ?_
 subst he
 refine ⟨_, rfl, post_true (tb := 4) (by kernel_rfl) ?_ rfl rfl (by kernel_rfl) Tryz.underlying4 hW' hg⟩
 rw [Tryz.params4]
 intro t ht
 simp only [List.mem_cons, List.not_mem_nil, or_false, or_self, or_self_left] at ht
 rcases ht with rfl | rfl
 ·exact ⟨by kernel_rfl, of_decide_eq_true (by kernel_rfl)⟩
 ·exact ⟨by kernel_rfl, of_decide_eq_true (by kernel_rfl)⟩
set_option maxRecDepth 100000 in
theorem lifted (os : Os) (started : os.Started) (H : Type) (enc : TypeId × Value → H) :
  ReturnsInHanded {} Tryz.checked os 4 .any (Rows.subresultantScaleSpec.pre6 enc Tryz.prog Tryz.f4 Rows.subresultantScaleRow.domain false) (Rows.subresultantScaleSpec.post enc Tryz.prog Tryz.f4 false true false false) := by
 refine returnsInHanded_of_change (C := Tryz.checked) own started (by kernel_rfl) Tryz.func4
  (ChangeSpec.witness6 (enc := enc) (C := Tryz.checked) false ⟨#[], #[.slice none 0 0, .slice none 0 0, .agg #[.slice none 0 0, .slice none 0 0]], []⟩ 8 (by kernel_rfl) (by kernel_rfl) (by kernel_rfl) (by kernel_rfl)) ?_
 intro W base args ds gs before hval hW _ _
 exact contract H enc W base args ds gs before hval hW
theorem kInp : (Rows.subresultantScaleRow.inPlace == Tryz.pinned.checked.prog.inPlace 4) = true := by kernel_rfl
theorem kUnf : (Rows.subresultantScaleRow.unfollowed == Tryz.pinned.checked.prog.unfollowed 4) = true := by kernel_rfl
theorem kRec : (Rows.subresultantScaleRow.recurses == Tryz.pinned.checked.prog.recurses 4) = true := by kernel_rfl
theorem kNam : (Rows.subresultantScaleRow.named == Tryz.pinned.checked.prog.varsNamed 4) = true := by kernel_rfl
theorem kLaid : laidOutB Tryz.pinned.checked.prog = true := by kernel_rfl
theorem closed : joinedFacts Tryz.pinned.checked.prog 4 Tryz.f4 Rows.subresultantScaleSpec Rows.subresultantScaleRow = true := by
 unfold joinedFacts
 rw [kInp, kUnf, kRec, kNam, kLaid]
 kernel_rfl
theorem proved : Rows.SubresultantScaleSaid :=
 OpenClaim.holds_of_wide (p := Tryz.pinned) (s := Rows.subresultantScaleSpec) (c := Rows.subresultantScaleRow) 4 Tryz.f4 rfl rfl rfl rfl rfl rfl rfl ⟨rfl, rfl, rfl, rfl, rfl⟩ rfl rfl rfl rfl rfl (by kernel_rfl) Tryz.func4 closed
  (of_decide_eq_true (by kernel_rfl)) (by unfold Func.isWrapper; first | (rw [if_pos (by decide +kernel)]; kernel_rfl) | (rw [if_neg (by decide +kernel)]; exact ⟨rfl, rfl⟩))
  (fun os started H enc _ => lifted os started H enc)
end subresultantScale
end Go.Proofs.YtjhhekmfdhfjpaaGreat
