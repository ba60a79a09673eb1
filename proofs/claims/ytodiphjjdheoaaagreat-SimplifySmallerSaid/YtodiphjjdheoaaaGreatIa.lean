/- Matrices as plain trees: what simplifying makes of them, and their truth. Simplifying keeps the truth (plain). Matrices as trees in memory; rows of matrices of one's own. One more part, by the place where it is put (plain). An argument of type prenex.Matrix as a tree. -/
import Derived.Test.YtodiphjjdheoaaaGreatNj
import Derived.Test.YtodiphjjdheoaaaGreatGs
import Derived.Test.YtodiphjjdheoaaaGreatHi
set_option linter.unusedVariables false
set_option linter.unusedSimpArgs false

namespace Go.Proofs.YtodiphjjdheoaaaGreat

inductive TM where
 | nd (kd rl : Int) (l : List Tm) (ks : List TM)
def TM.kd : TM → Int | .nd k _ _ _ => k
def TM.rl : TM → Int | .nd _ r _ _ => r
def TM.l : TM → List Tm | .nd _ _ l _ => l
def TM.ks : TM → List TM | .nd _ _ _ ks => ks
theorem TM.eta (t : TM) : t = .nd t.kd t.rl t.l t.ks := by cases t; rfl
def tmB (b : Bool) : TM := .nd (tk b) 0 [] []
def comb (o : Bool) (a b : Int) : Int × Bool := rl (bits (if o then BinOp.or else BinOp.and) .i64 (sg a) (sg b))
open Classical in
noncomputable def incl (o : Bool) (p : TM) : List TM → List TM × Bool
 | [] => ([p], true)
 | k :: ks =>
  if k.kd = p.kd ∧ p.kd ≠ 2 ∧ k = p then (k :: ks, true)
  else if k.kd = p.kd ∧ p.kd = 2 ∧ k.l = p.l then (.nd k.kd (comb o k.rl p.rl).1 k.l k.ks :: ks, (comb o k.rl p.rl).2)
  else (k :: (incl o p ks).1, (incl o p ks).2)
noncomputable def inclL (o : Bool) : List TM → List TM → Option (List TM)
 | [], ks => some ks
 | p :: ps, ks => if (incl o p ks).2 then inclL o ps (incl o p ks).1 else none
noncomputable def stepT (o : Bool) (ks : List TM) (s : TM) : Option (List TM) :=
 if s.kd = tk o then none else if s.kd = tk (!o) then some ks else if s.kd = (if o then 4 else 3) then inclL o s.ks ks else inclL o [s] ks
noncomputable def stepL (o : Bool) : List TM → List TM → Option (List TM)
 | [], ks => some ks
 | s :: ss, ks => (stepT o ks s).bind fun ks' => stepL o ss ks'
def finT (o : Bool) : Option (List TM) → TM
 | none => tmB o
 | some [] => tmB (!o)
 | some [k] => k
 | some (k :: k' :: ks) => .nd (if o then 4 else 3) 0 [] (k :: k' :: ks)
open Classical in
noncomputable def atomT (l : List Tm) (r : Int) : TM := if Sim l [(hd l, Mo.zero)] then tmB (bits BinOp.and .i64 (sg r) (bt (hd l).sign) != 0) else .nd 2 (arel (hd l) r) (snorm l) []
mutual
noncomputable def ofT : TM → TM
 | .nd k r l ks => if k = 1 then tmB true else if k = 2 then atomT l r else if k = 3 then finT false (stepL false (ofL ks) []) else if k = 4 then finT true (stepL true (ofL ks) []) else tmB false
noncomputable def ofL : List TM → List TM
 | [] => []
 | t :: ts => ofT t :: ofL ts
end
theorem ofL_map (ks : List TM) : ofL ks = ks.map ofT := by
 induction ks with
 | nil => unfold ofL; rfl
 | cons t ts ih => unfold ofL; rw [ih]; rfl
mutual
def TM.sz : TM → Nat
 | .nd _ _ _ ks => 1 + szL ks
def szL : List TM → Nat
 | [] => 0
 | t :: ts => t.sz + szL ts
end
theorem szL_nil : szL [] = 0 := by unfold szL; rfl
theorem szL_cons (t : TM) (ts : List TM) : szL (t :: ts) = t.sz + szL ts := by conv => lhs; unfold szL
theorem szL_append (a b : List TM) : szL (a ++ b) = szL a + szL b := by
 induction a with
 | nil => rw [List.nil_append, szL_nil, Nat.zero_add]
 | cons t ts ih => rw [List.cons_append, szL_cons, szL_cons, ih]; omega
theorem sz_pos (t : TM) : 1 ≤ t.sz := by cases t; unfold TM.sz; omega
theorem sz_ks (t : TM) : t.sz = 1 + szL t.ks := by cases t; unfold TM.sz; rfl
theorem len_szL (ks : List TM) : ks.length ≤ szL ks := by
 induction ks with
 | nil => exact Nat.le_refl _
 | cons t ts ih => rw [szL_cons]; have := sz_pos t; rw [List.length_cons]; omega
theorem szL_take (ks : List TM) (j : Nat) : szL (ks.take j) ≤ szL ks := by
 have := szL_append (ks.take j) (ks.drop j)
 rw [List.take_append_drop] at this
 omega
theorem incl_sz (o : Bool) (p : TM) (ks : List TM) : szL (incl o p ks).1 ≤ szL ks + p.sz := by
 induction ks with
 | nil => unfold incl; rw [szL_cons, szL_nil]; omega
 | cons k ks ih =>
  unfold incl
  split
  ·simp only; omega
  ·split
   ·simp only
    rw [szL_cons, szL_cons, sz_ks k, sz_ks (.nd _ _ _ _)]
    simp only [TM.ks]
    omega
   ·simp only
    rw [szL_cons, szL_cons]; omega
theorem inclL_sz (o : Bool) (ps : List TM) : ∀ ks ks', inclL o ps ks = some ks' → szL ks' ≤ szL ks + szL ps := by
 induction ps with
 | nil => intro ks ks' h; unfold inclL at h; cases h; rw [szL_nil]; omega
 | cons p ps ih =>
  intro ks ks' h
  unfold inclL at h
  split at h
  ·have h1 := ih _ _ h
   have h2 := incl_sz o p ks
   rw [szL_cons]; omega
  ·cases h
theorem stepT_sz (o : Bool) (s : TM) (ks ks' : List TM) (h : stepT o ks s = some ks') : szL ks' ≤ szL ks + s.sz := by
 unfold stepT at h
 split at h
 ·cases h
 ·split at h
  ·cases h; omega
  ·have h1 := inclL_sz o s.ks ks ks'
   have h2 := inclL_sz o [s] ks ks'
   rw [szL_cons, szL_nil] at h2
   have h3 := sz_ks s
   by_cases h4 : s.kd = (if o then 4 else 3)
   ·rw [if_pos h4] at h; have := h1 h; omega
   ·rw [if_neg h4] at h; have := h2 h; omega
theorem stepL_sz (o : Bool) (ss : List TM) : ∀ ks ks', stepL o ss ks = some ks' → szL ks' ≤ szL ks + szL ss := by
 induction ss with
 | nil => intro ks ks' h; unfold stepL at h; cases h; rw [szL_nil]; omega
 | cons s ss ih =>
  intro ks ks' h
  unfold stepL at h
  cases h1 : stepT o ks s with
  | none => rw [h1] at h; cases h
  | some k1 =>
   rw [h1] at h
   have h2 := stepT_sz o s ks k1 h1
   have h3 := ih k1 ks' h
   rw [szL_cons]; omega
theorem stepL_append (o : Bool) (a b : List TM) : ∀ ks, stepL o (a ++ b) ks = (stepL o a ks).bind (stepL o b) := by
 induction a with
 | nil => intro ks; rw [List.nil_append]; rfl
 | cons s a ih =>
  intro ks
  rw [List.cons_append]
  unfold stepL
  cases stepT o ks s with
  | none => rfl
  | some k1 => exact ih k1
theorem inclL_append (o : Bool) (a b : List TM) : ∀ ks, inclL o (a ++ b) ks = (inclL o a ks).bind (inclL o b) := by
 induction a with
 | nil => intro ks; rw [List.nil_append]; rfl
 | cons s a ih =>
  intro ks
  rw [List.cons_append]
  unfold inclL
  split
  ·exact ih _
  ·rfl
theorem tmB_sz (b : Bool) : (tmB b).sz = 1 := by rw [sz_ks]; show 1 + szL [] = 1; rw [szL_nil]
theorem finT_sz (o : Bool) (r : Option (List TM)) (n : Nat) (h : ∀ ks, r = some ks → szL ks ≤ n) : (finT o r).sz ≤ 1 + n := by
 match r with
 | none => show (tmB o).sz ≤ _; rw [tmB_sz]; omega
 | some [] => show (tmB (!o)).sz ≤ _; rw [tmB_sz]; omega
 | some [k] => have := h _ rfl; rw [szL_cons, szL_nil] at this; show k.sz ≤ _; omega
 | some (k :: k' :: ks) => have := h _ rfl; rw [sz_ks]; show 1 + szL (k :: k' :: ks) ≤ _; omega
theorem ofT_sz : ∀ t : TM, (ofT t).sz ≤ t.sz
 | .nd k r l ks => by
  have ih : ∀ L : List TM, (∀ t ∈ L, (ofT t).sz ≤ t.sz) → szL (ofL L) ≤ szL L := by
   intro L
   induction L with
   | nil => intro _; unfold ofL; exact Nat.le_refl _
   | cons t ts ih =>
    intro h
    have h1 := ih fun s hs => h s (by simp [hs])
    have h2 := h t (by simp)
    unfold ofL
    rw [szL_cons, szL_cons]; omega
  have hk := ih ks fun t ht => ofT_sz t
  have e : (TM.nd k r l ks).sz = 1 + szL ks := by unfold TM.sz; rfl
  rw [e]
  unfold ofT
  split
  ·rw [tmB_sz]; omega
  split
  ·unfold atomT
   split
   ·rw [tmB_sz]; omega
   ·rw [sz_ks]; show 1 + szL [] ≤ _; rw [szL_nil]; omega
  split
  ·refine finT_sz _ _ _ fun k' h => ?_
   have := stepL_sz _ _ _ _ h
   rw [szL_nil] at this; omega
  split
  ·refine finT_sz _ _ _ fun k' h => ?_
   have := stepL_sz _ _ _ _ h
   rw [szL_nil] at this; omega
  ·rw [tmB_sz]; omega
 termination_by t => SizeOf.sizeOf t
 decreasing_by
  have := List.sizeOf_lt_of_mem ht
  simp_wf
  omega
def ivT (z : Nat → Int) (l : List Tm) : Int := (evT (zq z) l).num
mutual
def trT (z : Nat → Int) : TM → Bool
 | .nd k r l ks => if k = 1 then true else if k = 2 then perm r (ivT z l).sign else if k = 3 then allT z ks else if k = 4 then anyT z ks else false
def allT (z : Nat → Int) : List TM → Bool
 | [] => true
 | t :: ts => trT z t && allT z ts
def anyT (z : Nat → Int) : List TM → Bool
 | [] => false
 | t :: ts => trT z t || anyT z ts
end
theorem stepT_o (o : Bool) (ks : List TM) (s : TM) (h : s.kd = tk o) : stepT o ks s = none := by unfold stepT; rw [if_pos h]
theorem stepT_n (o : Bool) (ks : List TM) (s : TM) (h : s.kd = tk (!o)) : stepT o ks s = some ks := by
 unfold stepT
 rw [if_neg (by rw [h]; cases o <;> decide), if_pos h]
end Go.Proofs.YtodiphjjdheoaaaGreat

namespace Go.Proofs.YtodiphjjdheoaaaGreat

inductive TM.Good : TM → Prop where
 | mk (k r : Int) (l : List Tm) (ks : List TM) : (∀ t ∈ l, t.2.nn = true) → (∀ t ∈ ks, TM.Good t) → TM.Good (.nd k r l ks)
end Go.Proofs.YtodiphjjdheoaaaGreat

namespace Go.Proofs.YtodiphjjdheoaaaGreat
open Go.RowKit

structure MX where
 kd : Int
 rl : Int
 x : PE
 a : Option Addr
 n : Nat
 p : Nat
abbrev MX.A (m : MX) : Array Value := mcA m.kd m.rl m.x m.a m.n m.p
def MxC (W : World) (b o : Nat) (m : MX) : Prop := W.cell? ⟨b, o, none⟩ = some (.int .i64 m.kd) ∧ W.cell? ⟨b, o + 1, none⟩ = some (.int .i64 m.rl) ∧ W.cell? ⟨b, o + 2, none⟩ = some (.int .i64 m.x.lv) ∧ W.cell? ⟨b, o + 3, none⟩ = some (.bool m.x.b) ∧
 W.cell? ⟨b, o + 4, none⟩ = some (.slice m.x.a m.x.n m.x.p) ∧ W.cell? ⟨b, o + 5, none⟩ = some (.slice m.x.ka m.x.kn m.x.kp) ∧ W.cell? ⟨b, o + 6, none⟩ = some (.slice m.a m.n m.p)
theorem MxC.heap {W W' : World} {b o : Nat} {m : MX} (h : MxC W b o m) (he : W'.heap[b]? = W.heap[b]?) : MxC W' b o m := by
 have hc : ∀ j, W'.cell? ⟨b, j, none⟩ = W.cell? ⟨b, j, none⟩ := fun j => by simp only [World.cell?, he]
 unfold MxC
 rw [hc, hc, hc, hc, hc, hc, hc]
 exact h
theorem MxC.lt {W : World} {b o : Nat} {m : MX} (h : MxC W b o m) : b < W.heap.size := World.block_lt_of_cell? _ _ h.1
theorem MxC.ext {W W' : World} {b o : Nat} {m : MX} (h : MxC W b o m) (he : Ext W W') : MxC W' b o m := h.heap (he.heap h.lt)
def RawP (M : Nat → Prop) (w : World) (x : PE) (l : List Tm) : Prop := ∃ d, ∃ t : RT d, RR M w d t (.int .i64 x.lv) (.bool x.b) (.slice x.a x.n x.p) (.slice x.ka x.kn x.kp) ∧ TB d t ∧ dlen (nrm (terms d t)) ≤ 5 ∧ Deg 66 (terms d t) ∧ Sim (terms d t) l
def NodeOk (t : TM) : Prop := norm t.l = t.l ∧ ((t.kd = 0 ∨ t.kd = 1) ∧ t.rl = 0 ∧ t.l = [] ∧ t.ks = [] ∨ t.kd = 2 ∧ (1 ≤ t.rl ∧ t.rl ≤ 6) ∧ t.ks = [] ∨ (t.kd = 3 ∨ t.kd = 4) ∧ t.rl = 0 ∧ t.l = [])
def NP (c : Bool) (M : Nat → Prop) (w : World) (y : MX) (t : TM) : Prop := y.kd = t.kd ∧ y.rl = t.rl ∧ SmF t.l ∧ (if c then CRx M w 4 y.x t.l ∧ NodeOk t else RawP M w y.x t.l)
def kat (ks : List TM) (i : Nat) : TM := ks.getD i (tmB false)
def KM (Q : World → MX → TM → Prop) (M : Nat → Prop) (w : World) (a : Option Addr) (n p : Nat) (ks : List TM) : Prop := n = ks.length ∧ n ≤ p ∧ p ≤ maxLen ∧ ∃ kk : Nat → MX, ∀ i, i < n → (∃ b off, a = some ⟨b, off, none⟩ ∧ ¬ M b ∧ MxC w b (off + i * 7) (kk i)) ∧ Q w (kk i) (kat ks i)
def TMc (c : Bool) : Nat → (Nat → Prop) → World → MX → TM → Prop
 | 0, _, _, _, _ => False
 | f + 1, M, w, y, t => NP c M w y t ∧ KM (TMc c f M) M w y.a y.n y.p t.ks
theorem RawP.kp {M : Nat → Prop} {w w' : World} {x : PE} {l : List Tm} (h : RawP M w x l) (he : Kp M w w') : RawP M w' x l := by
 obtain ⟨d, t, h1, h2⟩ := h
 exact ⟨d, t, RR.kp he h1, h2⟩
theorem RawP.more {M M' : Nat → Prop} {w : World} {x : PE} {l : List Tm} (h : RawP M w x l) (hm : ∀ g, M' g → M g ∨ w.heap.size ≤ g) : RawP M' w x l := by
 obtain ⟨d, t, h1, h2⟩ := h
 exact ⟨d, t, RR.more hm h1, h2⟩
theorem NP.kp {c : Bool} {M : Nat → Prop} {w w' : World} {y : MX} {t : TM} (h : NP c M w y t) (he : Kp M w w') : NP c M w' y t := by
 obtain ⟨h1, h2, h3, h4⟩ := h
 refine ⟨h1, h2, h3, ?_⟩
 cases c
 ·exact RawP.kp h4 he
 ·have h4 : CRx M w 4 y.x t.l ∧ NodeOk t := h4
  exact (show CRx M w' 4 y.x t.l ∧ NodeOk t from ⟨h4.1.kp he, h4.2⟩)
theorem NP.more {c : Bool} {M M' : Nat → Prop} {w : World} {y : MX} {t : TM} (h : NP c M w y t) (hm : ∀ g, M' g → M g ∨ w.heap.size ≤ g) : NP c M' w y t := by
 obtain ⟨h1, h2, h3, h4⟩ := h
 refine ⟨h1, h2, h3, ?_⟩
 cases c
 ·exact RawP.more h4 hm
 ·have h4 : CRx M w 4 y.x t.l ∧ NodeOk t := h4
  exact (show CRx M' w 4 y.x t.l ∧ NodeOk t from ⟨h4.1.more hm, h4.2⟩)
theorem KM.imp {Q Q' : World → MX → TM → Prop} {M M' : Nat → Prop} {w w' : World} {a : Option Addr} {n p : Nat} {ks : List TM} (h : KM Q M w a n p ks) (hc : ∀ b o m, ¬ M b → MxC w b o m → ¬ M' b ∧ MxC w' b o m) (hq : ∀ i m, i < n → Q w m (kat ks i) → Q' w' m (kat ks i)) : KM Q' M' w' a n p ks := by
 obtain ⟨h1, h2, h3, kk, h4⟩ := h
 refine ⟨h1, h2, h3, kk, fun i hi => ?_⟩
 obtain ⟨⟨b, off, e, hb, hk⟩, hx⟩ := h4 i hi
 obtain ⟨g1, g2⟩ := hc b _ _ hb hk
 exact ⟨⟨b, off, e, g1, g2⟩, hq i _ hi hx⟩
theorem TMc.kp {c : Bool} {M : Nat → Prop} {w w' : World} (he : Kp M w w') : ∀ {f : Nat} {y : MX} {t : TM}, TMc c f M w y t → TMc c f M w' y t
 | 0, _, _, h => h
 | _ + 1, _, _, h => ⟨h.1.kp he, h.2.imp (fun b _ _ hb hk => ⟨hb, hk.heap (he.2 b hk.lt hb)⟩) fun _ _ _ hq => TMc.kp he hq⟩
theorem TMc.ext {c : Bool} {M : Nat → Prop} {w w' : World} {f : Nat} {y : MX} {t : TM} (h : TMc c f M w y t) (he : Ext w w') : TMc c f M w' y t := h.kp (Kp.of_ext he)
theorem TMc.more {c : Bool} {M M' : Nat → Prop} {w : World} (hm : ∀ g, M' g → M g ∨ w.heap.size ≤ g) : ∀ {f : Nat} {y : MX} {t : TM}, TMc c f M w y t → TMc c f M' w y t
 | 0, _, _, h => h
 | _ + 1, _, _, h => ⟨h.1.more hm, h.2.imp (fun b _ _ hb hk => ⟨fun hc => (hm b hc).elim hb fun hs => by have := hk.lt; omega, hk⟩) fun _ _ _ hq => TMc.more hm hq⟩
theorem TMc.up {c : Bool} {M : Nat → Prop} {w : World} : ∀ {f : Nat} {y : MX} {t : TM}, TMc c f M w y t → TMc c (f + 1) M w y t
 | 0, _, _, h => h.elim
 | _ + 1, _, _, h => ⟨h.1, h.2.imp (fun _ _ _ hb hk => ⟨hb, hk⟩) fun _ _ _ hq => TMc.up hq⟩
theorem KM.kp {c : Bool} {f : Nat} {M : Nat → Prop} {w w' : World} {a : Option Addr} {n p : Nat} {ks : List TM} (h : KM (TMc c f M) M w a n p ks) (he : Kp M w w') : KM (TMc c f M) M w' a n p ks := h.imp (fun b _ _ hb hk => ⟨hb, hk.heap (he.2 b hk.lt hb)⟩) fun _ _ _ hq => TMc.kp he hq
theorem KM.ext {c : Bool} {f : Nat} {M : Nat → Prop} {w w' : World} {a : Option Addr} {n p : Nat} {ks : List TM} (h : KM (TMc c f M) M w a n p ks) (he : Ext w w') : KM (TMc c f M) M w' a n p ks := h.kp (Kp.of_ext he)
theorem KM.more {c : Bool} {f : Nat} {M M' : Nat → Prop} {w : World} {a : Option Addr} {n p : Nat} {ks : List TM} (h : KM (TMc c f M) M w a n p ks) (hm : ∀ g, M' g → M g ∨ w.heap.size ≤ g) : KM (TMc c f M') M' w a n p ks := h.imp (fun b _ _ hb hk => ⟨fun hc => (hm b hc).elim hb fun hs => by have := hk.lt; omega, hk⟩) fun _ _ _ hq => TMc.more hm hq
theorem KM.up {c : Bool} {f : Nat} {M : Nat → Prop} {w : World} {a : Option Addr} {n p : Nat} {ks : List TM} (h : KM (TMc c f M) M w a n p ks) : KM (TMc c (f + 1) M) M w a n p ks := h.imp (fun _ _ _ hb hk => ⟨hb, hk⟩) fun _ _ _ hq => TMc.up hq
def pm (x : Nat → MX) : Nat → Value := fun j => arr (x (j / 7)).A (j % 7)
theorem pm_at (x : Nat → MX) (i c : Nat) (hc : c < 7) : pm x (i * 7 + c) = arr (x i).A c := by
 unfold pm
 rw [show (i * 7 + c) / 7 = i by omega, show (i * 7 + c) % 7 = c by omega]
theorem pm_app (x : Nat → MX) (n : Nat) (t : MX) (j : Nat) (hj : j < (n + 1) * 7) : app (pm x) (n * 7) (arr t.A) j = pm (snoc x n t) j := by
 unfold app
 by_cases h : j < n * 7
 ·rw [if_pos h]; unfold pm; rw [snoc_lt _ _ _ _ (by omega)]
 ·rw [if_neg h]
  obtain ⟨r, rfl, hr⟩ : ∃ r, j = n * 7 + r ∧ r < 7 := ⟨j - n * 7, by omega, by omega⟩
  rw [Nat.add_sub_cancel_left, pm_at _ _ _ hr, snoc_at]
def ORow (f : Nat) (M : Nat → Prop) (base : Nat) (w : World) (v : Value) (ks : List TM) : Prop := ∃ xx : Nat → MX, Own w base 32 7 v ks.length (pm xx) ∧ ∀ j, j < ks.length → TMc true f (MR M v) w (xx j) (kat ks j)
section
variable {f : Nat} {M : Nat → Prop} {base : Nat} {w w' : World} {v : Value} {ks : List TM}
theorem ORow.ext (h : ORow f M base w v ks) (he : Ext w w') : ORow f M base w' v ks := by
 obtain ⟨xx, h1, h2⟩ := h
 exact ⟨xx, h1.ext he, fun j hj => (h2 j hj).ext he⟩
theorem ORow.lt (h : ORow f M base w v ks) : ∀ g, v.ownBlock = some g → base ≤ g ∧ g < w.heap.size := by
 obtain ⟨xx, h1, h2⟩ := h
 exact h1.lt
theorem ORow.mb (h : ORow f M base w v ks) (hM : Mb M w) : Mb (MR M v) w := fun g hg => hg.elim (hM g) fun h' => (h.lt g h').2
theorem ORow.form (h : ORow f M base w v ks) : ∃ a p, v = .slice a ks.length p := by
 obtain ⟨xx, h1, h2⟩ := h
 rcases h1 with ⟨rfl, h0⟩ | ⟨g, cap, F, rfl, _⟩
 ·rw [h0]; exact ⟨_, _, rfl⟩
 ·exact ⟨_, _, rfl⟩
theorem ORow.form3 (h : ORow f M base w v ks) : ∃ a n p, v = .slice a n p ∧ n = ks.length := by
 obtain ⟨a, p, e⟩ := h.form
 exact ⟨a, _, p, e, rfl⟩
theorem ORow.nil (f : Nat) (M : Nat → Prop) (base : Nat) (w : World) : ORow f M base w (.slice none 0 0) [] := ⟨fun _ => ⟨0, 0, PE.z, none, 0, 0⟩, Own.nil _ _ _ _ _, fun j hj => absurd hj (Nat.not_lt_zero _)⟩
theorem ORow.up (h : ORow f M base w v ks) : ORow (f + 1) M base w v ks := by
 obtain ⟨xx, h1, h2⟩ := h
 exact ⟨xx, h1, fun j hj => (h2 j hj).up⟩
theorem ORow.km {a : Option Addr} {n p : Nat} (h : ORow f M base w (.slice a n p) ks) (hM : ∀ g, base ≤ g → ¬ M g) : KM (TMc true f M) M w a n p ks := by
 obtain ⟨xx, h1, h2⟩ := h
 rcases h1 with ⟨e, h0⟩ | ⟨g, cap, F, e, hg, hB, hcc, hcm, hF⟩
 ·simp only [Value.slice.injEq] at e
  obtain ⟨rfl, rfl, rfl⟩ := e
  exact ⟨h0.symm, Nat.le_refl _, Nat.zero_le _, xx, fun i hi => absurd hi (Nat.not_lt_zero _)⟩
 ·simp only [Value.slice.injEq] at e
  obtain ⟨rfl, rfl, rfl⟩ := e
  refine ⟨rfl, hcc, hcm, xx, fun i hi => ⟨⟨g, 0, rfl, hM g hg, ?_⟩, (h2 i hi).more fun b hb => .inl (.inl hb)⟩⟩
  have hx : ∀ c, c < 7 → w.cell? ⟨g, 0 + i * 7 + c, none⟩ = some (arr (xx i).A c) := fun c hc => by
   rw [Nat.zero_add, hB.cell (by omega), hF _ (by omega), pm_at _ _ _ hc]
  exact ⟨hx 0 (by omega), hx 1 (by omega), hx 2 (by omega), hx 3 (by omega), hx 4 (by omega), hx 5 (by omega), hx 6 (by omega)⟩
end
theorem TMc.grown {M : Nat → Prop} {wa wb : World} {v : Value} {gg : Nat} {f : Nat} {x : MX} {t : TM} {n cap : Nat} (hP : TMc true f (MR M v) wa x t) (hg : wa.grownBy wb v.ownBlock) (hat : v.ownBlock = some gg ∨ wa.heap.size ≤ gg) : TMc true f (MR M (.slice (some ⟨gg, 0, none⟩) n cap)) wb x t := by
 have h1 := hP.more (M' := fun b => MR M v b ∨ b = gg) (fun b hb => hb.elim .inl fun e => by
  rcases hat with h | h
  ·exact .inl (.inr (by rw [h, e]))
  ·exact .inr (by omega))
 have h2 := h1.kp (Kp.grown hg fun k hk => .inl (.inr hk))
 exact h2.more fun b hb => .inl (hb.elim (fun h => .inl (.inl h)) fun h => .inr (by simp only [Value.ownBlock, Option.some.injEq] at h; exact h.symm))
theorem kat_snoc (ks : List TM) (t : TM) : kat (ks ++ [t]) ks.length = t := by unfold kat; simp
theorem kat_left (ks : List TM) (t : TM) {j : Nat} (hj : j < ks.length) : kat (ks ++ [t]) j = kat ks j := by unfold kat; simp [List.getD_eq_getElem?_getD, List.getElem?_append_left hj]
theorem ORow.push {f : Nat} {M : Nat → Prop} {base : Nat} {w w' : World} {va : Option Addr} {vc : Nat} {ks : List TM} {xx : Nat → MX} {y : MX} {t : TM} {g cap : Nat} (hx : ∀ j, j < ks.length → TMc true f (MR M (.slice va ks.length vc)) w (xx j) (kat ks j)) (hy : TMc true f (MR M (.slice va ks.length vc)) w y t)
  (hO : Own w' base 32 7 (.slice (some ⟨g, 0, none⟩) (ks.length + 1) cap) (ks.length + 1) (app (pm xx) (ks.length * 7) (arr y.A))) (hg : w.grownBy w' (Value.slice va ks.length vc).ownBlock) (hat : (Value.slice va ks.length vc).ownBlock = some g ∨ w.heap.size ≤ g) :
  ORow f M base w' (.slice (some ⟨g, 0, none⟩) (ks.length + 1) cap) (ks ++ [t]) := by
 refine ⟨snoc xx ks.length y, ?_, fun j hj => ?_⟩
 ·rw [List.length_append]
  exact hO.congr fun j hj => pm_app xx ks.length y j hj
 ·rw [List.length_append] at hj
  by_cases hjn : j = ks.length
  ·subst hjn
   rw [snoc_at, kat_snoc]
   exact hy.grown hg hat
  ·have hj : j < ks.length := by have : j < ks.length + 1 := hj; omega
   rw [snoc_lt _ _ _ _ hj, kat_left _ _ hj]
   exact (hx j hj).grown hg hat
def RetT (f : Nat) (M : Nat → Prop) (w : World) (t : TM) (e : Ending) (w' : World) : Prop := ∃ y : MX, e = .returned (.agg y.A) ∧ TMc true f M w' y t ∧ Ext w w'
end Go.Proofs.YtodiphjjdheoaaaGreat

namespace Go.Proofs.YtodiphjjdheoaaaGreat

def Nm (p k : TM) : Prop := ¬ (k.kd = p.kd ∧ p.kd ≠ 2 ∧ k = p) ∧ ¬ (k.kd = p.kd ∧ p.kd = 2 ∧ k.l = p.l)
def cmbT (o : Bool) (k p : TM) : TM := .nd k.kd (comb o k.rl p.rl).1 k.l k.ks
theorem kat_cons (k : TM) (ks : List TM) (i : Nat) : kat (k :: ks) (i + 1) = kat ks i := by unfold kat; simp
theorem kat_zero (k : TM) (ks : List TM) : kat (k :: ks) 0 = k := by unfold kat; simp
theorem incl_none (o : Bool) (p : TM) : ∀ ks : List TM, (∀ j, j < ks.length → Nm p (kat ks j)) → incl o p ks = (ks ++ [p], true)
 | [], _ => by unfold incl; rfl
 | k :: ks, h => by
  have h0 := h 0 (by simp)
  rw [kat_zero] at h0
  have ih := incl_none o p ks fun j hj => by
   have := h (j + 1) (by simp; omega)
   rwa [kat_cons] at this
  unfold incl
  rw [if_neg h0.1, if_neg h0.2, ih]
  rfl
theorem incl_same (o : Bool) (p : TM) : ∀ (ks : List TM) (i : Nat), i < ks.length → (∀ j, j < i → Nm p (kat ks j)) → (kat ks i).kd = p.kd ∧ p.kd ≠ 2 ∧ kat ks i = p → incl o p ks = (ks, true)
 | [], i, hi, _, _ => absurd hi (Nat.not_lt_zero _)
 | k :: ks, 0, _, _, h => by
  rw [kat_zero] at h
  unfold incl
  rw [if_pos h]
 | k :: ks, i + 1, hi, hn, h => by
  have h0 := hn 0 (by omega)
  rw [kat_zero] at h0
  rw [kat_cons] at h
  have ih := incl_same o p ks i (by simpa using hi) (fun j hj => by
   have := hn (j + 1) (by omega)
   rwa [kat_cons] at this) h
  unfold incl
  rw [if_neg h0.1, if_neg h0.2, ih]
theorem incl_comb (o : Bool) (p : TM) : ∀ (ks : List TM) (i : Nat), i < ks.length → (∀ j, j < i → Nm p (kat ks j)) → (kat ks i).kd = p.kd ∧ p.kd = 2 ∧ (kat ks i).l = p.l → incl o p ks = (ks.set i (cmbT o (kat ks i) p), (comb o (kat ks i).rl p.rl).2)
 | [], i, hi, _, _ => absurd hi (Nat.not_lt_zero _)
 | k :: ks, 0, _, _, h => by
  rw [kat_zero] at h
  unfold incl
  rw [if_neg fun hc => hc.2.1 h.2.1, if_pos h, kat_zero]
  rfl
 | k :: ks, i + 1, hi, hn, h => by
  have h0 := hn 0 (by omega)
  rw [kat_zero] at h0
  rw [kat_cons] at h
  have ih := incl_comb o p ks i (by simpa using hi) (fun j hj => by
   have := hn (j + 1) (by omega)
   rwa [kat_cons] at this) h
  unfold incl
  rw [if_neg h0.1, if_neg h0.2, ih, kat_cons]
  rfl
theorem kat_set (ks : List TM) (i j : Nat) (t : TM) (hj : j < ks.length) : kat (ks.set i t) j = if j = i then t else kat ks j := by
 unfold kat
 rw [List.getD_eq_getElem?_getD, List.getElem?_set, List.getD_eq_getElem?_getD]
 by_cases h : i = j
 ·subst h; rw [if_pos rfl, if_pos hj, if_pos rfl]; rfl
 ·rw [if_neg h, if_neg fun hc => h hc.symm]
theorem comb_range (o : Bool) (a b : Int) (h : (comb o a b).2 = true) : 1 ≤ (comb o a b).1 ∧ (comb o a b).1 ≤ 6 := by
 revert h
 unfold comb
 rcases sg_cases a with ha | ha | ha | ha | ha | ha <;> rcases sg_cases b with hb | hb | hb | hb | hb | hb <;> rw [ha, hb] <;> cases o <;> decide
theorem cmbT_ok {o : Bool} {k p : TM} (h : NodeOk k) (h2 : k.kd = 2) (hc : (comb o k.rl p.rl).2 = true) : NodeOk (cmbT o k p) := by
 obtain ⟨h1, h | h | h⟩ := h
 ·omega
 ·exact ⟨h1, .inr (.inl ⟨h2, comb_range o _ _ hc, h.2.2⟩)⟩
 ·omega
theorem ORow.put {f : Nat} {M : Nat → Prop} {base : Nat} {w : World} {a : Option Addr} {n p : Nat} {ks : List TM} (h : ORow (f + 1) M base w (.slice a n p) ks) (i : Nat) (hi : i < ks.length) (t : TM) (ht : NodeOk t) (h1 : t.kd = (kat ks i).kd) (h2 : t.l = (kat ks i).l) (h3 : t.ks = (kat ks i).ks) :
  ∃ g, a = some ⟨g, 0, none⟩ ∧ base ≤ g ∧ ORow (f + 1) M base (w.setCell ⟨g, i * 7 + 1, none⟩ (.int .i64 t.rl)) (.slice a n p) (ks.set i t) := by
 obtain ⟨xx, hO, hx⟩ := h
 rcases hO with ⟨_, h0⟩ | ⟨g, cap, F, e, hg, hB, hcc, hcm, hF⟩
 ·omega
 simp only [Value.slice.injEq] at e
 obtain ⟨rfl, rfl, rfl⟩ := e
 refine ⟨g, rfl, hg, fun j => if j = i then { xx i with rl := t.rl } else xx j, ?_, fun j hj => ?_⟩
 ·rw [List.length_set]
  refine .inr ⟨g, _, _, rfl, hg, hB.set (i * 7 + 1) (.int .i64 t.rl), hcc, hcm, fun j hj => ?_⟩
  obtain ⟨q, c, rfl, hc⟩ : ∃ q c, j = q * 7 + c ∧ c < 7 := ⟨j / 7, j % 7, by omega, by omega⟩
  rw [pm_at _ _ _ hc]
  unfold upd
  by_cases hqi : q = i
  ·subst hqi
   by_cases hc1 : c = 1
   ·subst hc1
    rw [if_pos rfl, if_pos rfl]; rfl
   ·rw [if_neg (by omega), if_pos rfl, hF _ hj, pm_at _ _ _ hc]
    match c, hc, hc1 with
    | 0, _, _ => rfl
    | 2, _, _ => rfl
    | 3, _, _ => rfl
    | 4, _, _ => rfl
    | 5, _, _ => rfl
    | 6, _, _ => rfl
  ·rw [if_neg (by omega), if_neg hqi, hF _ hj, pm_at _ _ _ hc]
 ·rw [List.length_set] at hj
  have hkp : Kp (MR M (.slice (some ⟨g, 0, none⟩) ks.length p)) w (w.setCell ⟨g, i * 7 + 1, none⟩ (.int .i64 t.rl)) := Kp.set _ _ (p := ⟨g, i * 7 + 1, none⟩) (.inr rfl) _
  rw [kat_set _ _ _ _ hj]
  by_cases hji : j = i
  ·subst hji
   simp only [if_true]
   obtain ⟨⟨q1, q2, q3, q4⟩, q5⟩ := hx j hj
   have q4 : CRx (MR M (.slice (some ⟨g, 0, none⟩) ks.length p)) w 4 (xx j).x (kat ks j).l ∧ NodeOk (kat ks j) := q4
   refine TMc.kp hkp ⟨⟨q1.trans h1.symm, rfl, by rw [h2]; exact q3, ?_⟩, by rw [h3]; exact q5⟩
   exact (show CRx _ w 4 (xx j).x t.l ∧ NodeOk t from ⟨by rw [h2]; exact q4.1, ht⟩)
  ·simp only [if_neg hji]
   exact TMc.kp hkp (hx j hj)
end Go.Proofs.YtodiphjjdheoaaaGreat

namespace Go.Proofs.YtodiphjjdheoaaaGreat
open Go.RowKit

def ME.X (m : ME) : MX := ⟨m.kd, m.rl, m.x, m.a, m.n, m.p⟩
noncomputable def tmM (W : World) : (d : Nat) → MT d → TM
 | 0, _ => tmB false
 | d + 1, m => .nd m.1.kd m.1.rl (tmS W m.1.s) ((List.range m.1.n).map fun i => tmM W d (m.2 i))
theorem tmM_s (W : World) (d : Nat) (m : MT (d + 1)) : tmM W (d + 1) m = .nd m.1.kd m.1.rl (tmS W m.1.s) ((List.range m.1.n).map fun i => tmM W d (m.2 i)) := by
 conv => lhs; unfold tmM
theorem kat_map (g : Nat → TM) (n i : Nat) (h : i < n) : kat ((List.range n).map g) i = g i := by unfold kat; simp [h]
theorem tmM_c (W : World) : ∀ (d : Nat) (m : MT d), PMs W d m → OkM d m → TMc false d M0 W (MT.me d m).X (tmM W d m)
 | 0, _, _, h => by unfold OkM at h; exact h.elim
 | d + 1, m, hP, hok => by
  obtain ⟨y, k⟩ := m
  obtain ⟨hr0, _, hkok⟩ := hok
  change 0 ≤ roomB 4 6 y.s 40 at hr0
  change ∀ i, i < y.n → OkM d (k i) at hkok
  obtain ⟨_, _, hps, h1, h2, hkid⟩ := hP
  simp only at hps h1 h2 hkid
  obtain ⟨t, g1, g2, g3, g4, g5⟩ := tmS_spec hps hr0
  have e := tmM_s W d (y, k)
  change tmM W (d + 1) (y, k) = .nd y.kd y.rl (tmS W y.s) ((List.range y.n).map fun i => tmM W d (k i)) at e
  rw [e]
  refine ⟨⟨rfl, rfl, ⟨?_, g4, g3⟩, ?_⟩, ?_⟩
  ·rw [show TM.l (.nd y.kd y.rl (tmS W y.s) ((List.range y.n).map fun i => tmM W d (k i))) = tmS W y.s from rfl, ← g5]
   exact nn_of_all (terms_nn 6 t)
  ·exact (show RawP M0 W y.x (tmS W y.s) from ⟨6, t, g1, g2, by rw [g5]; exact g3, by rw [g5]; exact g4, by rw [g5]; exact Sim.refl _⟩)
  ·refine ⟨?_, h1, h2, fun i => (MT.me d (k i)).X, fun i hi => ?_⟩
   ·show y.n = ((List.range y.n).map fun i => tmM W d (k i)).length
    simp
   ·have hi : i < y.n := hi
    obtain ⟨b, off, e1, e2, e3, e4⟩ := hkid i hi
    refine ⟨⟨b, off, e1, fun h => h, e3⟩, ?_⟩
    rw [show kat (TM.ks (.nd y.kd y.rl (tmS W y.s) ((List.range y.n).map fun i => tmM W d (k i)))) i = tmM W d (k i) from kat_map _ _ _ hi]
    exact tmM_c W d (k i) e4 (hkok i hi)
theorem szL_range (g : Nat → TM) (i : Nat) : szL ((List.range (i + 1)).map g) = szL ((List.range i).map g) + (g i).sz := by
 rw [List.range_succ, List.map_append, szL_append]
 simp [szL]
theorem tmM_sz (W : World) : ∀ (d : Nat) (m : MT d) (n : Int), 0 ≤ n → 0 ≤ roomM d m n → ((tmM W d m).sz : Int) ≤ n - roomM d m n
 | 0, _, _, _, h => by unfold roomM at h; omega
 | d + 1, m, n, h0, h => by
  obtain ⟨y, k⟩ := m
  have hE := roomM_s d (y, k) n
  change roomM (d + 1) (y, k) n = if roomB 4 6 y.s 40 < 0 then -1 else roomK (fun i q => roomM d (k i) q) y.n (n - 1) at hE
  by_cases hr : roomB 4 6 y.s 40 < 0
  ·rw [hE.trans (if_pos hr)] at h; omega
  rw [hE.trans (if_neg hr)] at h ⊢
  have e := tmM_s W d (y, k)
  change tmM W (d + 1) (y, k) = .nd y.kd y.rl (tmS W y.s) ((List.range y.n).map fun i => tmM W d (k i)) at e
  rw [e, sz_ks]
  change ((1 + szL ((List.range y.n).map fun i => tmM W d (k i)) : Nat) : Int) ≤ _
  have hpl : ∀ i q, 0 ≤ q → 0 ≤ roomM d (k i) q → ((tmM W d (k i)).sz : Int) ≤ q - roomM d (k i) q := fun i q h1 h2 => tmM_sz W d (k i) q h1 h2
  generalize hf : (fun i q => roomM d (k i) q) = f at *
  have hfi : ∀ i q, roomM d (k i) q = f i q := fun i q => by rw [← hf]
  generalize hg : (fun i => tmM W d (k i)) = g at *
  have hgi : ∀ i, tmM W d (k i) = g i := fun i => by rw [← hg]
  have key : ∀ i, i ≤ y.n → ((szL ((List.range i).map g) : Nat) : Int) ≤ (n - 1) - roomK f i (n - 1) := by
   intro i
   induction i with
   | zero => intro _; simp [roomK, szL]
   | succ i ih =>
    intro hi
    have h1 := roomK_all h i (by omega)
    have h2 := roomK_all h (i + 1) (by omega)
    rw [roomK_succ h1] at h2 ⊢
    have h3 := hpl i _ h1 (by rw [hfi]; exact h2)
    rw [hfi, hgi] at h3
    have h4 := ih (by omega)
    rw [szL_range]
    omega
  have := key y.n (Nat.le_refl _)
  omega
end Go.Proofs.YtodiphjjdheoaaaGreat
