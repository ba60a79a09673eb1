/- The polynomials of a simplified matrix (plain). Rows of polynomials of one's own outside any blocks; append of a row. cylinderref38.Polys of simple matrices: the walk. SimplifySmaller: plain facts, the calls. SimplifySmaller: the walk. The law SimplifySmaller returns true at every input, without a panic, and leaves its arguments as they were; no conditions. -/
import Derived.Test.YtodiphjjdheoaaaGreatIa
import Derived.Test.YtodiphjjdheoaaaGreatHe
import Derived.Test.YtodiphjjdheoaaaGreatIc
import Derived.Test.YtodiphjjdheoaaaGreatMq
set_option linter.unusedVariables false
set_option linter.unusedSimpArgs false

namespace Go.Proofs.YtodiphjjdheoaaaGreat

mutual
def polT : TM → List (List Tm)
 | .nd k _ l ks => if k = 2 then [l] else if k = 3 then polL ks else if k = 4 then polL ks else []
def polL : List TM → List (List Tm)
 | [] => []
 | t :: ts => polT t ++ polL ts
end
theorem polL_nil : polL [] = [] := by unfold polL; rfl
theorem polL_cons (t : TM) (ts : List TM) : polL (t :: ts) = polT t ++ polL ts := by conv => lhs; unfold polL
theorem polL_append (a b : List TM) : polL (a ++ b) = polL a ++ polL b := by
 induction a with
 | nil => rw [List.nil_append, polL_nil, List.nil_append]
 | cons t ts ih => rw [List.cons_append, polL_cons, polL_cons, ih, List.append_assoc]
theorem polT_two (t : TM) (h : t.kd = 2) : polT t = [t.l] := by
 cases t with
 | nd k r l ks => change k = 2 at h; subst h; unfold polT; rfl
theorem polT_join (o : Bool) (t : TM) (h : t.kd = if o then 4 else 3) : polT t = polL t.ks := by
 cases t with
 | nd k r l ks => change k = _ at h; subst h; cases o <;> (conv => lhs; unfold polT) <;> rfl
theorem polT_b (t : TM) (b : Bool) (h : t.kd = tk b) : polT t = [] := by
 cases t with
 | nd k r l ks => change k = _ at h; subst h; cases b <;> (unfold polT; rfl)
def PLe (a b : List (List Tm)) : Prop := a.length ≤ b.length ∧ ∀ l ∈ a, l ∈ b
theorem PLe.refl (a : List (List Tm)) : PLe a a := ⟨Nat.le_refl _, fun _ h => h⟩
theorem PLe.trans {a b c : List (List Tm)} (h : PLe a b) (k : PLe b c) : PLe a c := ⟨Nat.le_trans h.1 k.1, fun l hl => k.2 l (h.2 l hl)⟩
theorem PLe.app {a b c d : List (List Tm)} (h : PLe a b) (k : PLe c d) : PLe (a ++ c) (b ++ d) := by
 refine ⟨by rw [List.length_append, List.length_append]; exact Nat.add_le_add h.1 k.1, fun l hl => ?_⟩
 rcases List.mem_append.1 hl with hl | hl
 ·exact List.mem_append.2 (.inl (h.2 l hl))
 ·exact List.mem_append.2 (.inr (k.2 l hl))
theorem PLe.nil (a : List (List Tm)) : PLe [] a := ⟨Nat.zero_le _, fun _ h => absurd h (by simp)⟩
theorem PLe.left (a b : List (List Tm)) : PLe a (a ++ b) := ⟨by rw [List.length_append]; omega, fun _ h => List.mem_append.2 (.inl h)⟩
theorem incl_pol (o : Bool) (p : TM) (ks : List TM) : PLe (polL (incl o p ks).1) (polL ks ++ polT p) := by
 induction ks with
 | nil => unfold incl; rw [polL_cons, polL_nil, List.append_nil, List.nil_append]; exact PLe.refl _
 | cons k ks ih =>
  unfold incl
  split
  ·exact PLe.left _ _
  ·split
   ·rename_i h1 h2
    have h3 : polT (.nd k.kd (comb o k.rl p.rl).1 k.l k.ks) = [k.l] := polT_two _ (h2.1.trans h2.2.1)
    have h4 : polT k = [k.l] := polT_two k (h2.1.trans h2.2.1)
    simp only
    rw [polL_cons, polL_cons, h3, h4]
    exact PLe.left _ _
   ·simp only
    rw [polL_cons, polL_cons, List.append_assoc]
    exact (PLe.refl _).app ih
theorem inclL_pol (o : Bool) (ps : List TM) : ∀ ks ks', inclL o ps ks = some ks' → PLe (polL ks') (polL ks ++ polL ps) := by
 induction ps with
 | nil => intro ks ks' h; unfold inclL at h; cases h; exact PLe.left _ _
 | cons p ps ih =>
  intro ks ks' h
  unfold inclL at h
  split at h
  ·have h1 := ih _ _ h
   have h2 := (incl_pol o p ks).app (PLe.refl (polL ps))
   rw [polL_cons, ← List.append_assoc]
   exact h1.trans h2
  ·cases h
theorem stepT_pol (o : Bool) (s : TM) (ks ks' : List TM) (h : stepT o ks s = some ks') : PLe (polL ks') (polL ks ++ polT s) := by
 unfold stepT at h
 split at h
 ·cases h
 ·split at h
  ·cases h; exact PLe.left _ _
  ·by_cases h4 : s.kd = (if o then 4 else 3)
   ·rw [if_pos h4] at h
    rw [polT_join o s h4]
    exact inclL_pol o _ _ _ h
   ·rw [if_neg h4] at h
    have := inclL_pol o _ _ _ h
    rwa [polL_cons, polL_nil, List.append_nil] at this
theorem stepL_pol (o : Bool) (ss : List TM) : ∀ ks ks', stepL o ss ks = some ks' → PLe (polL ks') (polL ks ++ polL ss) := by
 induction ss with
 | nil => intro ks ks' h; unfold stepL at h; cases h; exact PLe.left _ _
 | cons s ss ih =>
  intro ks ks' h
  unfold stepL at h
  cases h1 : stepT o ks s with
  | none => rw [h1] at h; cases h
  | some k1 =>
   rw [h1] at h
   have h2 := (stepT_pol o s ks k1 h1).app (PLe.refl (polL ss))
   have h3 := ih k1 ks' h
   rw [polL_cons, ← List.append_assoc]
   exact h3.trans h2
theorem finT_pol (o : Bool) (r : Option (List TM)) (q : List (List Tm)) (h : ∀ ks, r = some ks → PLe (polL ks) q) : PLe (polT (finT o r)) q := by
 match r with
 | none => rw [show finT o none = tmB o from rfl, polT_b _ o rfl]; exact PLe.nil _
 | some [] => rw [show finT o (some []) = tmB (!o) from rfl, polT_b _ (!o) rfl]; exact PLe.nil _
 | some [k] =>
  have := h _ rfl
  rwa [polL_cons, polL_nil, List.append_nil] at this
 | some (k :: k' :: ks) =>
  have := h _ rfl
  rw [show finT o (some (k :: k' :: ks)) = .nd (if o then 4 else 3) 0 [] (k :: k' :: ks) from rfl, polT_join o _ rfl]
  exact this
def SnOf (a b : List (List Tm)) : Prop := a.length ≤ b.length ∧ ∀ q ∈ a, ∃ l ∈ b, q = snorm l ∧ ¬ Sim l [(hd l, Mo.zero)]
theorem SnOf.pre {a b c : List (List Tm)} (h : PLe a b) (k : SnOf b c) : SnOf a c := ⟨Nat.le_trans h.1 k.1, fun q hq => k.2 q (h.2 q hq)⟩
theorem SnOf.app {a b c d : List (List Tm)} (h : SnOf a b) (k : SnOf c d) : SnOf (a ++ c) (b ++ d) := by
 refine ⟨by rw [List.length_append, List.length_append]; exact Nat.add_le_add h.1 k.1, fun q hq => ?_⟩
 rcases List.mem_append.1 hq with hq | hq
 ·obtain ⟨l, h1, h2⟩ := h.2 q hq; exact ⟨l, List.mem_append.2 (.inl h1), h2⟩
 ·obtain ⟨l, h1, h2⟩ := k.2 q hq; exact ⟨l, List.mem_append.2 (.inr h1), h2⟩
theorem SnOf.nil (b : List (List Tm)) : SnOf [] b := ⟨Nat.zero_le _, fun _ h => absurd h (by simp)⟩
theorem atomT_pol (l : List Tm) (r : Int) : SnOf (polT (atomT l r)) [l] := by
 unfold atomT
 split
 ·rw [polT_b _ _ rfl]; exact SnOf.nil _
 ·rename_i h
  rw [polT_two _ rfl]
  refine ⟨Nat.le_refl _, fun q hq => ⟨l, by simp, ?_, h⟩⟩
  exact List.mem_singleton.1 hq
theorem ofT_pol : ∀ t : TM, SnOf (polT (ofT t)) (polT t)
 | .nd k r l ks => by
  have ih : ∀ L : List TM, (∀ t ∈ L, SnOf (polT (ofT t)) (polT t)) → SnOf (polL (ofL L)) (polL L) := by
   intro L
   induction L with
   | nil => intro _; unfold ofL; rw [polL_nil]; exact SnOf.nil _
   | cons t ts ih =>
    intro h
    unfold ofL
    rw [polL_cons, polL_cons]
    exact (h t (by simp)).app (ih fun s hs => h s (by simp [hs]))
  have hk := ih ks fun t ht => ofT_pol t
  unfold ofT
  split
  ·rw [polT_b _ true rfl]; exact SnOf.nil _
  split
  ·rename_i h2
   rw [polT_two (.nd k r l ks) h2]; exact atomT_pol l r
  split
  ·rename_i h3
   rw [polT_join false (.nd k r l ks) h3]
   exact SnOf.pre (finT_pol _ _ _ fun k' h => by have := stepL_pol _ _ _ _ h; rwa [polL_nil, List.nil_append] at this) hk
  split
  ·rename_i h4
   rw [polT_join true (.nd k r l ks) h4]
   exact SnOf.pre (finT_pol _ _ _ fun k' h => by have := stepL_pol _ _ _ _ h; rwa [polL_nil, List.nil_append] at this) hk
  ·rw [polT_b _ false rfl]; exact SnOf.nil _
 termination_by t => SizeOf.sizeOf t
 decreasing_by
  have := List.sizeOf_lt_of_mem ht
  simp_wf
  omega
end Go.Proofs.YtodiphjjdheoaaaGreat

namespace Go.Proofs.YtodiphjjdheoaaaGreat
open Go.RowKit

def PRowM (M : Nat → Prop) (base : Nat) (w : World) (v : Value) (GL : List (List Tm)) : Prop := ∃ xx, Own w base 29 4 v GL.length (px xx) ∧ ∀ j, j < GL.length → CRx (MR M v) w 4 (xx j) (GL.getD j [])
theorem PRowM.ext {M : Nat → Prop} {base : Nat} {w w' : World} {v : Value} {GL : List (List Tm)} (h : PRowM M base w v GL) (he : Ext w w') : PRowM M base w' v GL := by
 obtain ⟨xx, h1, h2⟩ := h
 exact ⟨xx, h1.ext he, fun j hj => (h2 j hj).ext he⟩
theorem PRowM.lt {M : Nat → Prop} {base : Nat} {w : World} {v : Value} {GL : List (List Tm)} (h : PRowM M base w v GL) : ∀ g, v.ownBlock = some g → base ≤ g ∧ g < w.heap.size := by
 obtain ⟨xx, h1, h2⟩ := h
 exact h1.lt
theorem PRowM.mb {M : Nat → Prop} {base : Nat} {w : World} {v : Value} {GL : List (List Tm)} (h : PRowM M base w v GL) (hM : Mb M w) : Mb (MR M v) w := fun g hg => hg.elim (hM g) fun h' => (h.lt g h').2
theorem PRowM.form {M : Nat → Prop} {base : Nat} {w : World} {v : Value} {GL : List (List Tm)} (h : PRowM M base w v GL) : ∃ a p, v = .slice a GL.length p := by
 obtain ⟨xx, h1, h2⟩ := h
 exact h1.form
theorem PRowM.form2 {M : Nat → Prop} {base : Nat} {w : World} {v : Value} {GL : List (List Tm)} (h : PRowM M base w v GL) : ∃ a n p, v = .slice a n p := by
 obtain ⟨a, p, e⟩ := h.form
 exact ⟨a, _, p, e⟩
theorem PRowM.form3 {M : Nat → Prop} {base : Nat} {w : World} {v : Value} {GL : List (List Tm)} (h : PRowM M base w v GL) : ∃ a n p, v = .slice a n p ∧ n = GL.length := by
 obtain ⟨a, p, e⟩ := h.form
 exact ⟨a, _, p, e, rfl⟩
theorem PRowM.nil (M : Nat → Prop) (base : Nat) (w : World) : PRowM M base w (.slice none 0 0) [] := ⟨fun _ => PE.z, Own.nil _ _ _ _ _, fun j hj => absurd hj (Nat.not_lt_zero _)⟩
theorem PRowM.krow {M : Nat → Prop} {base : Nat} {w : World} {v : Value} {GL : List (List Tm)} (h : PRowM M base w v GL) (hM : ∀ g, base ≤ g → ¬ M g) (hc : GL.length ≤ 1000000) : KRow M w 4 v GL.length fun j => GL.getD j [] := by
 obtain ⟨xx, h1, h2⟩ := h
 exact Own.toK h1 (fun i hi => (h2 i hi).more fun b hb => .inl (.inl hb)) hM (by omega)
theorem PRowM.push {M : Nat → Prop} {base : Nat} {w w' : World} {va : Option Addr} {vc : Nat} {GL : List (List Tm)} {xx : Nat → PE} {y : PE} {l : List Tm} {g cap : Nat} (hx : ∀ j, j < GL.length → CRx (MR M (.slice va GL.length vc)) w 4 (xx j) (GL.getD j [])) (hy : CRx (MR M (.slice va GL.length vc)) w 4 y l)
  (hO : Own w' base 29 4 (.slice (some ⟨g, 0, none⟩) (GL.length + 1) cap) (GL.length + 1) (app (px xx) (GL.length * 4) (arr (peA y)))) (hg : w.grownBy w' (Value.slice va GL.length vc).ownBlock) (hat : (Value.slice va GL.length vc).ownBlock = some g ∨ w.heap.size ≤ g) :
  PRowM M base w' (.slice (some ⟨g, 0, none⟩) (GL.length + 1) cap) (GL ++ [l]) := by
 refine ⟨snoc xx GL.length y, ?_, fun j hj => ?_⟩
 ·rw [List.length_append]
  exact hO.congr fun j hj => px_app xx GL.length y j hj
 ·rw [List.length_append] at hj
  by_cases hjn : j = GL.length
  ·subst hjn
   rw [snoc_at, show (GL ++ [l]).getD GL.length [] = l by simp]
   exact keep_grownC hy hg hat
  ·have hj : j < GL.length := by have : j < GL.length + 1 := hj; omega
   rw [snoc_lt _ _ _ _ hj, show (GL ++ [l]).getD j [] = GL.getD j [] by simp [List.getD_eq_getElem?_getD, List.getElem?_append_left hj]]
   exact keep_grownC (hx j hj) hg hat
theorem wp_append_prowM {M : Nat → Prop} {P : Program} (w : World) {o : Oper} {a : Act} {K : Act → World → Prop} {Q : Exit → Act → World → Prop} (s x : Operand) (t : TypeId)
  (ho : o.op = .call { callee := .builtin .append, args := #[s, x], argTypes := #[t, t] })
  (base : Nat) (i : TypeInfo) (z : Value) (ht : P.underlying t = some (.slice 29)) (hi : P.info? 29 = some i) (hz : i.zero = some z)
  (hsize : i.size = 4) (hby : i.bytes = 64) (hzs : z.cells.size = 4)
  (v : Value) (GL : List (List Tm)) (hs : a.eval s = v) (hown : PRowM M base w v GL)
  (ua : Option Addr) (m up : Nat) (RL : List (List Tm)) (hm : m = RL.length) (hx : a.eval x = .slice ua m up) (hu : KRow (MR M v) w 4 (.slice ua m up) m fun j => RL.getD j []) (h63 : GL.length + m ≤ 1000000) (hbase : base ≤ w.heap.size)
  (h : ∀ v' w', PRowM M base w' v' (GL ++ RL) → w.grownBy w' v.ownBlock → (∀ g, v'.ownBlock = some g → v.ownBlock = some g ∨ w.heap.size ≤ g) → K (a.put o.dst v') w') :
  Oper.wp P o a w K Q := by
 rcases Nat.eq_zero_or_pos m with h0 | h0
 ·subst h0
  have hRL : RL = [] := List.length_eq_zero_iff.1 hm.symm
  obtain ⟨xx, hO, hX⟩ := id hown
  have hle : ∃ va vp, v = .slice va GL.length vp ∧ GL.length ≤ vp := by
   rcases hO with ⟨rfl, h0⟩ | ⟨g, cap, F, rfl, _, _, hc, _⟩
   ·exact ⟨none, 0, by rw [h0], by omega⟩
   ·exact ⟨_, _, rfl, hc⟩
  obtain ⟨va, vp, hv, hle⟩ := hle
  have hsrc : Src P i.size t (.slice ua 0 up) 0 [] w := by
   cases ua with
   | none => exact Src.ofNil w ht up
   | some q => exact Src.ofSlice w ht q 0 up [] (by simp) (fun j u hj => by simp at hj) (fun u hu => by simp at hu)
  have hrun := run_append_nothing (P := P) w t t o.type 29 i ht hi va GL.length vp hle (.slice ua 0 up) hsrc
  have h2 := h v w (by rw [hRL, List.append_nil]; exact hown) (grownBy_refl w _) (fun g hg => .inl hg)
  rw [hv] at hs h2
  unfold Oper.wp
  simp [execOp, ho, resolve, invoke, builtin, hs, hx, hrun, Result.andThen]
  exact h2
 ·obtain ⟨xx, hO, hX⟩ := id hown
  obtain ⟨xu, hxu⟩ := hu.x
  obtain ⟨⟨b, off, rfl, hmc, hcm, hb, hMb, _⟩, _⟩ := hxu 0 h0
  refine wp_append_lies w s x t ho base 29 i z 4 64 ht hi hz hsize hby hzs (by omega) v GL.length (rowL (px xx) (GL.length * 4)) hs hO.toRow ⟨b, off, none⟩ m up (rowL (px xu) (m * 4)) hx (rowL_len _ _) ?_ ?_ h0 (by unfold maxLen; omega) (by omega) hbase w.heap.size rfl ?_
  ·intro j u hj
   have hj2 : j < m * 4 := by
    have := (List.getElem?_eq_some_iff.1 hj).1
    simpa [rowL_len] using this
   rw [rowL_get _ _ _ hj2] at hj
   cases hj
   rw [addr_add]
   obtain ⟨⟨b', off', he, _, _, _, _, k0, k1, k2, k3⟩, _⟩ := hxu (j / 4) (by omega)
   simp only [Option.some.injEq, Addr.mk.injEq, and_true] at he
   obtain ⟨rfl, rfl⟩ := he
   unfold px
   by_cases e0 : j % 4 = 0
   ·rw [if_pos e0, show off + j = off + j / 4 * 4 by omega]; exact k0
   ·rw [if_neg e0]
    by_cases e1 : j % 4 = 1
    ·rw [if_pos e1, show off + j = off + j / 4 * 4 + 1 by omega]; exact k1
    ·rw [if_neg e1]
     by_cases e2 : j % 4 = 2
     ·rw [if_pos e2, show off + j = off + j / 4 * 4 + 2 by omega]; exact k2
     ·rw [if_neg e2, show off + j = off + j / 4 * 4 + 3 by omega]; exact k3
  ·intro u hu
   simp only [rowL, List.mem_map, List.mem_range] at hu
   obtain ⟨j, hj, rfl⟩ := hu
   exact px_each xu j
  ·intro g cap w' ho hg hat hlt
   rw [rowL_app, show GL.length * 4 + m * 4 = (GL.length + m) * 4 from by rw [Nat.add_mul]] at ho
   have hat2 : v.ownBlock = some g ∨ w.heap.size ≤ g := hat.imp id (fun e => by omega)
   refine h _ w' ⟨appF GL.length xx xu, ?_, fun j hj => ?_⟩ hg (fun g' hg' => by
    simp only [Value.ownBlock, Option.some.injEq] at hg'
    rw [← hg']; exact hat2)
   ·rw [List.length_append, ← hm]
    exact (Own.ofRow ho).congr fun j _ => px_rows xx xu GL.length j
   ·rw [List.length_append, ← hm] at hj
    unfold appF
    by_cases hjn : j < GL.length
    ·rw [if_pos hjn, show (GL ++ RL).getD j [] = GL.getD j [] by simp [List.getD_eq_getElem?_getD, List.getElem?_append_left hjn]]
     exact keep_grownC (n := GL.length + m) (cap := cap) (hX j hjn) hg hat2
    ·rw [if_neg hjn, show (GL ++ RL).getD j [] = RL.getD (j - GL.length) [] by simp [List.getD_eq_getElem?_getD, List.getElem?_append_right (Nat.le_of_not_lt hjn)]]
     exact keep_grownC (n := GL.length + m) (cap := cap) (hxu (j - GL.length) (by omega)).2.1 hg hat2
end Go.Proofs.YtodiphjjdheoaaaGreat

namespace Go.Proofs.YtodiphjjdheoaaaGreat
open Go.RowKit

theorem polL_take (ks : List TM) (j : Nat) (h : j < ks.length) : polL (ks.take (j + 1)) = polL (ks.take j) ++ polT (kat ks j) := by
 rw [take_kat ks j h, polL_append, polL_cons, polL_nil, List.append_nil]
def RetP38 (M : Nat → Prop) (L : List (List Tm)) (w : World) (e : Ending) (w' : World) : Prop := ∃ a n p, e = .returned (.slice a n p) ∧ n = L.length ∧ KRow M w' 4 (.slice a n p) n (fun j => L.getD j []) ∧ Ext w w'
def P38Ctr (f : Nat) : Prop := ∀ (M : Nat → Prop) (y : MX) (t : TM) (w : World), Mb M w → TMc true f M w y t → (polT t).length ≤ 1000 → Calls Tryz.prog 17 #[.agg y.A] w (RetP38 M (polT t) w)
theorem krow_one {M : Nat → Prop} {w : World} {x : PE} {l : List Tm} (hM : Mb M w) (h : CRx M w 4 x l) : KRow M (w.alloc (.cells (peA x) 29)) 4 (.slice (some ⟨w.heap.size, 0, none⟩) 1 1) 1 (fun j => [l].getD j []) := by
 have hB := Blk.of_arr w (peA x) 29 4 rfl
 have hO : Own (w.alloc (.cells (peA x) 29)) w.heap.size 29 4 (.slice (some ⟨w.heap.size, 0, none⟩) 1 1) 1 (px fun _ => x) := .inr ⟨w.heap.size, 1, arr (peA x), rfl, Nat.le_refl _, hB, Nat.le_refl _, by decide, fun j hj => by
  match j, hj with
  | 0, _ => rfl
  | 1, _ => rfl
  | 2, _ => rfl
  | 3, _ => rfl⟩
 exact Own.toK hO (fun i hi => by
  obtain rfl : i = 0 := by omega
  exact h.ext ((Ext.refl w).alloc _)) (fun g hg => hM.new hg) (by decide)
set_option maxRecDepth 100000 in
set_option maxHeartbeats 16000000 in
theorem p38_walk (f : Nat) (ih : P38Ctr f) : P38Ctr (f + 1) := by
 obtain ⟨j0, ji, jz0, jz1, jz2⟩ := info_parts Tryz.info29
 intro M y t w hM hP hlen
 obtain ⟨⟨a1, a2, a3, a4⟩, a5⟩ := hP
 have a4 : CRx M w 4 y.x t.l ∧ NodeOk t := a4
 obtain ⟨hk1, hk2, hk3, kk, hkk⟩ := a5
 have hE := (Ext.refl w).alloc (.cells y.A 32)
 have hx := new_mx w y
 have hkd := a4.2.kd.2
 generalize hW : w.alloc (.cells y.A 32) = W at *
 have HW := Lib.hid hW
 have HE := Lib.hid hE
 have HX := Lib.hid hx
 have HM := Lib.hid hM
 have HC := Lib.hid a4.1
 have hleaf : NodeOk t := a4.2
 by_cases hk : t.kd = 2
 ·have h2 : (y.kd == 2) = true := by rw [a1, hk]; decide
  have hpt := polT_two t hk
  have HF : Hid (RetP38 M (polT t) w (.returned (.slice (some ⟨W.heap.size, 0, none⟩) 1 1)) (W.alloc (.cells (peA y.x) 29))) := by
   refine ⟨_, _, _, rfl, by rw [hpt]; rfl, ?_, hE.alloc _⟩
   rw [hpt]
   exact krow_one (hM.ext hE) (a4.1.ext hE)
  clear hk hkd hW hE hx hM a1 a2 a3 a4 hkk hpt hleaf hlen ih hk1 hk2 hk3
  go_enter Tryz.func17, Tryz.ntmps17
  go_upto_region 1 with (fail)
  rw [HW.out]
  generalize w.heap.size = g at *
  obtain ⟨x0, x1, x2, x3, x4, x5, x6⟩ := HX.out
  go_wp2
  exact bodyPost_ret (v := .slice (some ⟨W.heap.size, 0, none⟩) 1 1) (by simp [results, Tryz.results17, go_sem]) rfl HF.out
 have h2 : (y.kd == 2) = false := by rw [a1]; exact beq_eq_false_iff_ne.2 hk
 have hpt : polT t = polL t.ks := by
  rcases hkd with h | h | h | h | h
  ·obtain ⟨_, q | q | q⟩ := hleaf
   ·rw [polT_b t false h, q.2.2.2, polL_nil]
   ·omega
   ·omega
  ·obtain ⟨_, q | q | q⟩ := hleaf
   ·rw [polT_b t true h, q.2.2.2, polL_nil]
   ·omega
   ·omega
  ·omega
  ·exact polT_join false t h
  ·exact polT_join true t h
 rw [hpt] at hlen ⊢
 have HIH : Hid (∀ j, j < t.ks.length → (∃ b off, y.a = some ⟨b, off, none⟩ ∧ MxC w b (off + j * 7) (kk j)) ∧ ∀ (Q : Nat → Prop) (w1 : World), Mb Q w1 → (∀ g, Q g → M g ∨ w.heap.size ≤ g) → Ext w w1 → Calls Tryz.prog 17 #[.agg (kk j).A] w1 (RetP38 Q (polT (kat t.ks j)) w1)) := fun j hj => by
  obtain ⟨⟨b, off, e, _, h⟩, h2⟩ := hkk j (by rw [hk1]; exact hj)
  refine ⟨⟨b, off, e, h⟩, fun Q w1 hq hv he => ih Q (kk j) (kat t.ks j) w1 hq ((h2.more hv).ext he) ?_⟩
  have h1 := polL_take t.ks j hj
  have h3 := polL_append (t.ks.take (j + 1)) (t.ks.drop (j + 1))
  rw [List.take_append_drop, h1] at h3
  rw [h3, List.length_append, List.length_append] at hlen
  omega
 have HLB : Hid (∀ j, j < t.ks.length → (polL (t.ks.take j)).length + (polT (kat t.ks j)).length ≤ 1000) := fun j hj => by
  have h1 := polL_take t.ks j hj
  have h3 := polL_append (t.ks.take (j + 1)) (t.ks.drop (j + 1))
  rw [List.take_append_drop, h1] at h3
  rw [h3, List.length_append, List.length_append] at hlen
  omega
 have HN := Lib.hid hk1
 have HLN := Lib.hid hlen
 have hn1 : y.n ≤ 9223372036854775807 := by unfold maxLen at hk3; omega
 unfold maxLen at hk3
 clear hk hkd hW hE hx hM a1 a2 a3 a4 hkk hpt hleaf hlen ih hk1 HC
 obtain ⟨ks, hks⟩ : ∃ q, q = t.ks := ⟨_, rfl⟩
 rw [← hks] at HIH HLB HN HLN ⊢
 obtain ⟨yn, hyn⟩ : ∃ g, g = y.n := ⟨_, rfl⟩
 obtain ⟨ya, hya⟩ : ∃ g, g = y.a := ⟨_, rfl⟩
 rw [← hyn] at HN hk2 hn1
 rw [← hya] at HIH
 have x0 := HX.out.1
 have x6 := HX.out.2.2.2.2.2.2
 rw [← hyn, ← hya] at x6
 clear hyn hya hks
 go_enter Tryz.func17, Tryz.ntmps17
 go_upto_region 1 with (fail)
 rw [HW.out]
 clear HW
 have HG : Hid (w.heap.size < W.heap.size) := HX.out.lt
 have HWS : Hid (w.heap.size ≤ W.heap.size) := HE.out.size
 generalize hgg : w.heap.size = g at HG HX x0 x6 ⊢
 have X6 : Hid (W.cell? ⟨g, 6, none⟩ = some (.slice ya yn y.p)) := x6
 clear hgg
 go_wp2
 go_loopw [14, 3] (fun iv v wr => ∃ (j : Nat), j ≤ yn ∧ iv = .int .i64 (j : Int) ∧ Hid (PRowM M W.heap.size wr v (polL (ks.take j))) ∧ Hid (Ext W wr)) (fun iv _ _ => yn - (intOf iv).toNat)
 case atStart => exact ⟨0, Nat.zero_le _, rfl, PRowM.nil _ _ _, Ext.refl _⟩
 case round =>
  obtain ⟨j, hj, rfl, HPR, HXR⟩ := hrel
  obtain ⟨va, vn, vp, rfl, hvn⟩ := HPR.out.form3
  have HVN := Lib.hid hvn
  clear hvn
  by_cases hlt : j < yn
  ·have HJ : Hid (j < ks.length) := by show j < ks.length; rw [← HN.out]; exact hlt
   obtain ⟨⟨b, off, rfl, hc⟩, hC⟩ := HIH.out j HJ.out
   have x6' : wr.cell? ⟨g, 6, none⟩ = some (.slice (some ⟨b, off, none⟩) yn y.p) := by rw [HXR.out.cell HG.out]; exact x6
   have hXw := HE.out.trans HXR.out
   obtain ⟨e0, e1, e2, e3, e4, e5, e6⟩ := hc.ext hXw
   have hmb := HPR.out.mb (HM.out.ext hXw)
   have CP := Lib.hid (hC (MR M (.slice va vn vp)) wr hmb (fun q hq => hq.imp id fun h => Nat.le_trans HWS.out (HPR.out.lt q h).1) hXw)
   have HLT := Lib.hid hlt
   have hltI : (j : Int) < (yn : Int) := by omega
   clear hc hC hmb hXw hlt x6
   generalize kk j = zk at *
   go_wp2_with (fail)
   refine CP.out.mono ?_
   rintro e w2 ⟨ua, um, up, rfl, hum, huk, he2⟩
   have HP2 := Lib.hid (HPR.out.ext he2)
   have HX2 := Lib.hid (HXR.out.trans he2)
   have HUM := Lib.hid hum
   have HUK := Lib.hid huk
   have hv2 := HVN.out
   subst hv2
   clear he2 CP HPR HXR hum huk e0 e1 e2 e3 e4 e5 e6 x6'
   go_wp2_with (at_builtin; refine wpList_wanted (by rfl) (wp_append_prowM (M := M) _ (.tmp 17) (.tmp 23) _ rfl W.heap.size j0 _ Tryz.underlying27 ji jz0 jz1 jz2 rfl (.slice va (polL (ks.take j)).length vp) (polL (ks.take j)) rfl HP2.out ua um up (polT (kat ks j)) HUM.out rfl HUK.out (by rw [HUM.out]; have := HLB.out j HJ.out; omega) HX2.out.size ?_))
   intro v' w3 hP3 hg3 hv3
   have HP3 : Hid (PRowM M W.heap.size w3 v' (polL (ks.take (j + 1)))) := by
    show PRowM _ _ _ _ _
    rw [polL_take ks j HJ.out]; exact hP3
   have HX3 := Lib.hid (HX2.out.grown hg3 fun q hq => (HP2.out.lt q hq).1)
   clear hP3 hg3 hv3 HP2 HX2 HUM HUK
   go_wp2
   go_roundw
   case rel => exact ⟨j + 1, HLT.out, by go_num, HP3.out, HX3.out⟩
   case measure => have := HLT.out; simp [intOf]; omega
  ·obtain rfl : j = yn := by omega
   have hge : ¬ (j : Int) < (j : Int) := by omega
   have HF : Hid (RetP38 M (polL ks) w (.returned (.slice va vn vp)) wr) := by
    have hta : polL (ks.take j) = polL ks := by rw [HN.out, List.take_length]
    have hvn := HVN.out
    rw [hta] at hvn
    have hkr := HPR.out.krow (fun q hq => HM.out.new (Nat.le_trans HWS.out hq)) (by rw [hta]; have := HLN.out; omega)
    rw [hta, ← hvn] at hkr
    exact ⟨va, vn, vp, rfl, hvn, hkr, HE.out.trans HXR.out⟩
   clear HPR HIH
   go_wp2
   exact bodyPost_ret (v := .slice va vn vp) (by simp [results, Tryz.results17, go_sem]) rfl HF.out
theorem rf_Polys38 : ∀ f, P38Ctr f
 | 0 => fun _ _ _ _ _ h => h.elim
 | f + 1 => p38_walk f (rf_Polys38 f)
end Go.Proofs.YtodiphjjdheoaaaGreat

namespace Go.Proofs.YtodiphjjdheoaaaGreat
open Go.RowKit

theorem nonconst_lv {M : Nat → Prop} {w : World} {x : PE} {l : List Tm} (h : CRx M w 4 x l) (hn : ¬ Sim l [(hd l, Mo.zero)]) : lvM ((snorm l).map (·.2)) ≠ 0 := by
 obtain ⟨k, _, hk⟩ := h.lvR
 have h1 := lv_lvF h.nn hk
 rw [lvM_sn, ← h1]
 rintro rfl
 refine hn ?_
 have hz : ∀ m, coefAt l m ≠ 0 → m = Mo.zero := fun m hm => by
  have g := hk.2.1 m hm
  have hnn : m.nn = true := by
   cases hq : m.nn
   ·exact absurd (h.nn m hq) hm
   ·rfl
  have e1 := g 1 (by omega) (by omega)
  have e2 := g 2 (by omega) (by omega)
  have e3 := g 3 (by omega) (by omega)
  have e4 := g 4 (by omega) (by omega)
  obtain ⟨a, b, c, d⟩ := m
  simp only [Mo.get] at e1 e2 e3 e4
  simp at e1 e2 e3 e4
  simp [Mo.zero, *]
 have hs : Sim l [(coefAt l Mo.zero, Mo.zero)] := fun m => by
  by_cases hm : coefAt l m = 0
  ·rw [hm]
   by_cases e : m = Mo.zero
   ·rw [e] at hm; rw [e]; simp [coefAt, hm]
   ·rw [coefAt_zero fun t ht e' => e (by rw [List.mem_singleton] at ht; rw [ht] at e'; exact e'.symm)]
  ·rw [hz m hm]; simp [coefAt]
 have := hd_cst hs.symm
 rw [this]; exact hs
theorem polM_polT (W : World) : ∀ (d : Nat) (m : MT d), polM W d m = polT (tmM W d m)
 | 0, _ => by unfold polM tmM; rw [polT_b _ false rfl]
 | d + 1, m => by
  obtain ⟨y, k⟩ := m
  have e1 := polM_s W d (y, k)
  have e2 := tmM_s W d (y, k)
  change polM W (d + 1) (y, k) = if y.kd = 2 then [tmS W y.s] else if y.kd = 3 ∨ y.kd = 4 then (List.range y.n).flatMap fun i => polM W d (k i) else [] at e1
  change tmM W (d + 1) (y, k) = .nd y.kd y.rl (tmS W y.s) ((List.range y.n).map fun i => tmM W d (k i)) at e2
  have e3 : ∀ n, (List.range n).flatMap (fun i => polM W d (k i)) = polL ((List.range n).map fun i => tmM W d (k i)) := fun n => by
   induction n with
   | zero => rw [List.range_zero, List.flatMap_nil, List.map_nil, polL_nil]
   | succ n ih => rw [fm_succ, ih, List.range_succ, List.map_append, polL_append, polM_polT W d (k n)]; simp [polL_cons, polL_nil]
  rw [e1, e2]
  by_cases h2 : y.kd = 2
  ·rw [if_pos h2, polT_two (.nd y.kd y.rl (tmS W y.s) ((List.range y.n).map fun i => tmM W d (k i))) h2]; rfl
  by_cases h3 : y.kd = 3
  ·rw [if_neg h2, if_pos (.inl h3), polT_join false (.nd y.kd y.rl (tmS W y.s) ((List.range y.n).map fun i => tmM W d (k i))) h3]; exact e3 _
  by_cases h4 : y.kd = 4
  ·rw [if_neg h2, if_pos (.inr h4), polT_join true (.nd y.kd y.rl (tmS W y.s) ((List.range y.n).map fun i => tmM W d (k i))) h4]; exact e3 _
  ·rw [if_neg h2, if_neg (by rintro (h | h) <;> contradiction)]
   unfold polT
   rw [if_neg h2, if_neg h3, if_neg h4]
structure SmI (y : MX) (s : TM) (w : World) (c n1 : Nat) (gx lx : Nat → List Tm) : Prop where
 le : n1 ≤ c
 few : c ≤ 80
 sO : ∀ W', Ext w W' → Calls Tryz.prog 15 #[.agg y.A] W' (RetT 12 M0 W' s)
 p38 : ∀ u W', TMc true 12 M0 W' u s → Calls Tryz.prog 17 #[.agg u.A] W' fun e w' => ∃ a p, e = .returned (.slice a n1 p) ∧ KRow M0 w' 4 (.slice a n1 p) n1 lx ∧ Ext W' w'
 pr : ∀ W', Ext w W' → Calls Tryz.prog 18 #[.agg y.A] W' fun e w' => ∃ a p, e = .returned (.slice a c p) ∧ KRow M0 w' 4 (.slice a c p) c gx ∧ Ext W' w'
 fm : ∀ a p W', KRow M0 W' 4 (.slice a c p) c gx → Calls Tryz.prog 19 #[.slice a c p] W' fun e w' => ∃ (b : Option Addr) (c' q : Nat) (F : Nat → List Tm), e = .returned (.slice b c' q) ∧ KRow M0 w' 4 (.slice b c' q) c' F ∧ Ext W' w' ∧ ∀ i, i < n1 → ∃ k, k < c' ∧ lx i = F k
theorem smI (m : MT 12) (w : World) (hP : PMs w 12 m) (h : 0 ≤ roomM 12 m 80) : ∃ s c n1 gx lx, SmI (MT.me 12 m).X s w c n1 gx lx := by
 have hok := okM 12 m 80 (by omega) (by omega) h
 have hlen := polM_len w 12 m 80 (by omega) h
 have hsm := polM_sm w 12 m hP hok
 have h80 : (polM w 12 m).length ≤ 80 := by omega
 have htc := tmM_c w 12 m hP hok
 have hsz := tmM_sz w 12 m 80 (by omega) h
 have hpt := polM_polT w 12 m
 have hsn := ofT_pol (tmM w 12 m)
 rw [← hpt] at hsn
 refine ⟨ofT (tmM w 12 m), (polM w 12 m).length, (polT (ofT (tmM w 12 m))).length, fun j => (polM w 12 m).getD j [], fun j => (polT (ofT (tmM w 12 m))).getD j [], hsn.1, h80, fun W' he => ?_, fun u W' hu => ?_, fun W' he => ?_, fun a p W' hK => ?_⟩
 ·exact si_Of 12 M0 (MT.me 12 m).X (tmM w 12 m) W' (mb0 _) (htc.ext he) (by omega)
 ·refine (rf_Polys38 12 M0 u _ W' (mb0 _) hu (by have := hsn.1; omega)).mono ?_
  rintro e w2 ⟨a, n, p, rfl, hn, hK, he2⟩
  subst hn
  exact ⟨a, p, rfl, hK, he2⟩
 ·refine (pr_Polys 12 m w W' hP hok he (by omega)).mono ?_
  rintro e w2 ⟨a, n, p, rfl, hn, hK, he2⟩
  subst hn
  exact ⟨a, p, rfl, hK, he2⟩
 ·refine (rf_fam39 a _ p (fun j => (polM w 12 m).getD j []) W' hK (fun j hj => hsm _ (getD_mem hj)) (by omega)).mono ?_
  rintro e w2 ⟨b, c', q, F, rfl, hKF, hf, he2⟩
  refine ⟨b, c', q, F, rfl, hKF, he2, fun i hi => ?_⟩
  obtain ⟨l, hl, e1, hnc⟩ := hsn.2 _ (getD_mem hi)
  obtain ⟨j, hj, ej⟩ := List.mem_iff_getElem.1 hl
  have ej2 : (polM w 12 m).getD j [] = l := by rw [List.getD_eq_getElem?_getD, List.getElem?_eq_getElem hj]; exact ej
  obtain ⟨xx, hxx⟩ := KRow.x hK
  have hcx := (hxx j hj).2.1
  rw [ej2] at hcx
  have hlv := nonconst_lv hcx hnc
  obtain ⟨k, hk, ek⟩ := hf.2.1 j hj (by show lvM ((snorm ((polM w 12 m).getD j [])).map (·.2)) ≠ 0; rw [ej2]; exact hlv)
  exact ⟨k, hk, by rw [e1, ← ej2]; exact ek.symm⟩
end Go.Proofs.YtodiphjjdheoaaaGreat

namespace Go.Proofs.YtodiphjjdheoaaaGreat
open Go.RowKit

theorem simB_self (l : List Tm) : simB l l = true := by unfold simB; simp
set_option maxRecDepth 100000 in
set_option maxHeartbeats 32000000 in
theorem law_smaller (m : MT 12) (w : World) (hP : PMs w 12 m) : Calls Tryz.prog 4 #[.agg (MT.me 12 m).A] w fun e w' => e = .returned (.bool true) ∧ Ext w w' := by
 have CSM : Hid (∀ W', Ext w W' → Calls Tryz.prog 12 #[.agg (MT.me 12 m).A] W' fun e w' => e = .returned (.bool (decide (0 ≤ roomM 12 m 80))) ∧ Ext W' w') := fun W' he => law_small39 m W' (PMs.ext he hP)
 have HALL : Hid (0 ≤ roomM 12 m 80 → ∃ s c n1 gx lx, SmI (MT.me 12 m).X s w c n1 gx lx) := smI m w hP
 have hyx : (MT.me 12 m).A = ((MT.me 12 m).X).A := rfl
 rw [hyx] at CSM ⊢
 clear hP hyx
 generalize roomM 12 m 80 = r at *
 generalize (MT.me 12 m).X = y at *
 have HX := Lib.hid ((Ext.refl w).alloc (.cells y.A 32))
 have HB := Lib.hid (new_mx w y)
 generalize hW1 : w.alloc (.cells y.A 32) = W1 at *
 have HW1 := Lib.hid hW1
 clear hW1
 go_enter Tryz.func4, Tryz.ntmps4
 go_upto_region 1 with (fail)
 rw [HW1.out]
 generalize w.heap.size = g at *
 go_wp2_with (fail)
 refine (law_awake39 _).mono ?_
 rintro e w2 ⟨rfl, he2⟩
 have HX2 := Lib.hid (HX.out.trans he2)
 have HB2 := Lib.hid (HB.out.ext he2)
 obtain ⟨x0, x1, x2, x3, x4, x5, x6⟩ := HB2.out
 have CS := Lib.hid (CSM.out w2 HX2.out)
 clear he2 HX HB
 go_wp2_with (fail)
 refine CS.out.mono ?_
 rintro e w3 ⟨rfl, he3⟩
 have HX3 := Lib.hid (HX2.out.trans he3)
 have HB3 := Lib.hid (HB2.out.ext he3)
 clear he3 HX2 HB2 CS x0 x1 x2 x3 x4 x5 x6
 by_cases hr : 0 ≤ r
 rotate_left 1
 ·have hD : decide (0 ≤ r) = false := decide_eq_false hr
  rw [hD]
  clear HALL CSM HB3 hr hD
  go_wp2_with (fail)
  refine (law_awake39 _).mono ?_
  rintro e w4 ⟨rfl, he4⟩
  have HF := Lib.hid (HX3.out.trans he4)
  go_wp2
  go_ret
  exact ⟨rfl, HF.out⟩
 have hD : decide (0 ≤ r) = true := decide_eq_true hr
 rw [hD]
 obtain ⟨s, nc, n1, gx, lx, hI⟩ := HALL.out hr
 have HI := Lib.hid hI
 have hle : (n1 : Int) ≤ (nc : Int) := by have := hI.le; omega
 have hfew := hI.few
 clear HALL CSM hr hD hI
 obtain ⟨x0, x1, x2, x3, x4, x5, x6⟩ := HB3.out
 go_wp2_with (fail)
 refine (HI.out.sO _ HX3.out).mono ?_
 rintro e w4 ⟨u, rfl, hu, he4⟩
 have hE5 := he4.trans ((Ext.refl w4).alloc (.cells u.A 32))
 have hG := new_mx w4 u
 have hU5 := hu.ext ((Ext.refl w4).alloc (.cells u.A 32))
 generalize hW5 : w4.alloc (.cells u.A 32) = W5 at *
 have HW5 := Lib.hid hW5
 have HX5 := Lib.hid ((HX3.out.trans hE5).trans (Ext.refl W5).drew)
 have hS : SMM g w4.heap.size y u W5.drew := SMM.ext ⟨HB3.out.ext hE5, hG⟩ (Ext.refl W5).drew
 have HU5 := Lib.hid (hU5.ext (Ext.refl W5).drew)
 clear hW5 hE5 hG hU5 hu he4 HX3 HB3 x0 x1 x2 x3 x4 x5 x6
 go_upto_region 4 with (fail)
 rw [HW5.out]
 generalize w4.heap.size = g3 at *
 clear HW5
 have HS5 := Lib.hid hS
 refine wp_region_u (SMM g g3 y u) 7 (by kernel_rfl) hS (fun hHeld => ?_)
 clear hS
 generalize W5.drew = wd at *
 (refine tkB [0, 3] ?_; (iterate 2 (refine tk1 (oi := ?_) (v := ?_) (by kernel_rfl) (by first | exact hSn | exact hHeld) ?_ ?_ ?_ ?_ ?_; rotate_left 2; (simp only [xgA, xgB, xgC]; rfl); rfl; (intro wS hSw; obtain ⟨⟨A0, A1, A2, A3, A4, A5, A6⟩, B0, B1, B2, B3, B4, B5, B6⟩ := hSw; go_simp; try with_reducible rfl); (exact fun _ _ _ h => h); (try simp only [Act.put, xgD, xgE, xgF]))); refine tkE ?_)
 ((refine wpAnyU_one 1 (o := ?_) (by kernel_rfl) ?_ ?_; rotate_left 1; (simp only [xgA, xgB, xgC]; rfl); intro K hK); go_simp; (refine (HI.out.p38 u _ HU5.out).mono ?_); rintro e_ v1 ⟨a1, p1, rfl, hK1, d1⟩; go_wp2_with (fail); (try clear hSn); (have hSn := hHeld.ext d1); (refine hK.out _ _ (fun _ => hSn) ?_); clear hK K; (try simp only [Act.put, xgD, xgE, xgF]))
 (refine tkB [2] ?_; (iterate 1 (refine tk1 (oi := ?_) (v := ?_) (by kernel_rfl) (by first | exact hSn | exact hHeld) ?_ ?_ ?_ ?_ ?_; rotate_left 2; (simp only [xgA, xgB, xgC]; rfl); rfl; (intro wS hSw; obtain ⟨⟨A0, A1, A2, A3, A4, A5, A6⟩, B0, B1, B2, B3, B4, B5, B6⟩ := hSw; go_simp; try with_reducible rfl); (exact fun _ _ _ h => h); (try simp only [Act.put, xgD, xgE, xgF]))); refine tkE ?_)
 ((refine wpAnyU_one 4 (o := ?_) (by kernel_rfl) ?_ ?_; rotate_left 1; (simp only [xgA, xgB, xgC]; rfl); intro K hK); go_simp; (refine (HI.out.pr _ (HX5.out.trans d1)).mono ?_); rintro e_ v2 ⟨a2, p2, rfl, hK2, d2⟩; go_wp2_with (fail); (try clear hSn); (have hSn := hHeld.ext (d1.trans d2)); (refine hK.out _ _ (fun _ => hSn) ?_); clear hK K; (try simp only [Act.put, xgD, xgE, xgF]))
 (refine tkB [5, 6] ?_; (iterate 2 (refine tk1 (oi := ?_) (v := ?_) (by kernel_rfl) (by first | exact hSn | exact hHeld) ?_ ?_ ?_ ?_ ?_; rotate_left 2; (simp only [xgA, xgB, xgC]; rfl); rfl; (intro wS hSw; obtain ⟨⟨A0, A1, A2, A3, A4, A5, A6⟩, B0, B1, B2, B3, B4, B5, B6⟩ := hSw; go_simp; try with_reducible rfl); (exact fun _ _ _ h => h); (try simp only [Act.put, xgD, xgE, xgF]))); refine tkE ?_)
 refine wpAnyU_done (by kernel_rfl) ?_ _
 have hngt : ¬ (nc : Int) < (n1 : Int) := by omega
 have HX6 := Lib.hid (HX5.out.trans (d1.trans d2))
 have HS6 := Lib.hid (HS5.out.ext (d1.trans d2))
 have HU6 := Lib.hid (HU5.out.ext (d1.trans d2))
 clear hK1 hK2 d1 d2 hSn hHeld HX5 HS5 HU5
 obtain ⟨⟨x0, x1, x2, x3, x4, x5, x6⟩, y0, y1, y2, y3, y4, y5, y6⟩ := HS6.out
 go_wp2_with (fail)
 refine (HI.out.pr _ HX6.out).mono ?_
 rintro e v3 ⟨a3, p3, rfl, hK3, d3⟩
 go_wp2_with (fail)
 refine (HI.out.fm a3 p3 v3 hK3).mono ?_
 rintro e v4 ⟨b4, c4, q4, F4, rfl, hK4, d4, hfin⟩
 have HX7 := Lib.hid (HX6.out.trans (d3.trans d4))
 have HS7 := Lib.hid (HS6.out.ext (d3.trans d4))
 have HU7 := Lib.hid (HU6.out.ext (d3.trans d4))
 have HK4 := Lib.hid hK4
 have HFIN := Lib.hid hfin
 clear hK3 hK4 hfin d3 d4 HX6 HS6 HU6 x0 x1 x2 x3 x4 x5 x6 y0 y1 y2 y3 y4 y5 y6
 obtain ⟨⟨x0, x1, x2, x3, x4, x5, x6⟩, y0, y1, y2, y3, y4, y5, y6⟩ := HS7.out
 go_wp2_with (fail)
 refine (HI.out.p38 u v4 HU7.out).mono ?_
 rintro e v5 ⟨a5, p5, rfl, hK5, d5⟩
 obtain ⟨xa, hxa⟩ := KRow.x hK5
 obtain ⟨xb, hxb⟩ := KRow.x (HK4.out.ext d5)
 have HX8 := Lib.hid (HX7.out.trans d5)
 have HXA := Lib.hid hxa
 have HXB := Lib.hid hxb
 have hc4 : c4 ≤ 1099511627776 := HK4.out.1
 have hn1 : n1 ≤ 80 := by omega
 clear hxa hxb hK5 HK4 HS7 HU7 d5 HX7 HI x0 x1 x2 x3 x4 x5 x6 y0 y1 y2 y3 y4 y5 y6 hngt hle hfew
 go_wp2
 go_loopw [33] (fun iv wr => ∃ (j : Nat), j ≤ n1 ∧ iv = .int .i64 (j : Int) ∧ Hid (Ext v5 wr)) (fun iv _ => n1 - (intOf iv).toNat)
 case atStart => exact ⟨0, Nat.zero_le _, rfl, Ext.refl _⟩
 case round =>
  obtain ⟨j, hj, rfl, HR⟩ := hrel
  by_cases hlt : j < n1
  ·have HLT := Lib.hid hlt
   have hltI : (j : Int) < (n1 : Int) := by omega
   clear hlt
   go_wp2
   go_loopw [38, 7] (fun iv fv wr => ∃ (k : Nat) (fb : Bool), k ≤ c4 ∧ iv = .int .i64 (k : Int) ∧ fv = .bool fb ∧ Hid (∀ q, q < k → lx j = F4 q → fb = true) ∧ Hid (Ext v5 wr)) (fun iv _ _ => c4 - (intOf iv).toNat)
   case atStart => exact ⟨0, false, Nat.zero_le _, rfl, rfl, fun q hq => absurd hq (Nat.not_lt_zero _), HR.out⟩
   case round =>
    obtain ⟨k, fb, hk, rfl, rfl, HQ, HR2⟩ := hrel
    by_cases hlk : k < c4
    ·have HLK := Lib.hid hlk
     have hlkI : (k : Int) < (c4 : Int) := by omega
     have hXd := HR2.out.trans (Ext.refl wr).drew
     obtain ⟨⟨b, off, rfl, h1, h2, hb, _, hka⟩, hca, _⟩ := HXA.out j HLT.out
     obtain ⟨⟨b', off', rfl, h1', h2', hb', _, hkb⟩, hcb, _⟩ := HXB.out k hlk
     have hS : SKK b (off + j * 4) (xa j) b' (off' + k * 4) (xb k) wr.drew := SKK.ext ⟨hka, hkb⟩ hXd
     have CSP := Lib.hid (rf_samePolyB 4 M0 (lx j) (F4 k) (xa j) (xb k) wr.drew (hca.ext hXd) (hcb.ext hXd))
     have HXD := Lib.hid hXd
     unfold maxLen at h2 h2'
     clear hca hcb hka hkb hXd hlk HR2
     generalize xa j = zx at *
     generalize xb k = zy at *
     go_upto_region 15 with (fail)
     refine wp_region_u (SKK b (off + j * 4) zx b' (off' + k * 4) zy) 13 (by kernel_rfl) hS (fun hHeld => ?_)
     generalize wr.drew = wd9 at *
     cases fb
     ·(refine tkB [0, 1, 2, 3, 4, 5, 6, 7, 8, 9] ?_; (iterate 10 (refine tk1 (oi := ?_) (v := ?_) (by kernel_rfl) (by first | exact hSn | exact hHeld) ?_ ?_ ?_ ?_ ?_; rotate_left 2; (simp only [xgA, xgB, xgC]; rfl); rfl; (intro wS hSw; obtain ⟨⟨A0, A1, A2, A3⟩, B0, B1, B2, B3⟩ := hSw; go_simp; try with_reducible rfl); (exact fun _ _ _ h => h); (try simp only [Act.put, xgD, xgE, xgF]))); refine tkE ?_)
      ((refine wpAnyU_one 10 (o := ?_) (by kernel_rfl) ?_ ?_; rotate_left 1; (simp only [xgA, xgB, xgC]; rfl); intro K hK); go_simp; (refine (CSP.out).mono ?_); rintro e_ u9 ⟨rfl, d9⟩; go_wp2_with (fail); (try clear hSn); (have hSn := hHeld.ext d9); (refine hK.out _ _ (fun _ => hSn) ?_); clear hK K; (try simp only [Act.put, xgD, xgE, xgF]))
      (refine tkB [11, 12] ?_; (iterate 2 (refine tk1 (oi := ?_) (v := ?_) (by kernel_rfl) (by first | exact hSn | exact hHeld) ?_ ?_ ?_ ?_ ?_; rotate_left 2; (simp only [xgA, xgB, xgC]; rfl); rfl; (intro wS hSw; obtain ⟨⟨A0, A1, A2, A3⟩, B0, B1, B2, B3⟩ := hSw; go_simp; try with_reducible rfl); (exact fun _ _ _ h => h); (try simp only [Act.put, xgD, xgE, xgF]))); refine tkE ?_)
      refine wpAnyU_done (by kernel_rfl) ?_ _
      have HX9 := Lib.hid (HXD.out.trans d9)
      obtain ⟨sb, hsb⟩ : ∃ b, b = simB (lx j) (F4 k) := ⟨_, rfl⟩
      rw [← hsb]
      have HQ2 : Hid (∀ q, q < k + 1 → lx j = F4 q → sb = true) := fun q hq e => by
       by_cases hqk : q = k
       ·rw [hsb, e, hqk]; exact simB_self _
       ·exact absurd (HQ.out q (by omega) e) (by decide)
      clear hsb d9 hSn hHeld hS CSP HXD HQ
      go_wp2
      go_roundw
      case rel => exact ⟨k + 1, sb, HLK.out, by go_num, rfl, HQ2.out, HX9.out⟩
      case measure => have := HLK.out; simp [intOf]; omega
     ·(refine tkB [0, 1] ?_; (iterate 2 (refine tk1 (oi := ?_) (v := ?_) (by kernel_rfl) (by first | exact hSn | exact hHeld) ?_ ?_ ?_ ?_ ?_; rotate_left 2; (simp only [xgA, xgB, xgC]; rfl); rfl; (intro wS hSw; obtain ⟨⟨A0, A1, A2, A3⟩, B0, B1, B2, B3⟩ := hSw; go_simp; try with_reducible rfl); (exact fun _ _ _ h => h); (try simp only [Act.put, xgD, xgE, xgF]))); refine tkE ?_)
      (refine tkB [2, 3, 4, 5, 6, 7, 8, 9, 10] ?_; (iterate 9 (refine ts1F (oi := ?_) (by kernel_rfl) (by first | exact hSn | exact hHeld) ?_ ?_ ?_ ?_; rotate_left 1; (simp only [xgA, xgB, xgC]; rfl); rfl; (exact fun _ _ _ h => h); (try simp only [Act.put, xgD, xgE, xgF]))); refine tkE ?_)
      (refine tkB [11, 12] ?_; (iterate 2 (refine tk1 (oi := ?_) (v := ?_) (by kernel_rfl) (by first | exact hSn | exact hHeld) ?_ ?_ ?_ ?_ ?_; rotate_left 2; (simp only [xgA, xgB, xgC]; rfl); rfl; (intro wS hSw; obtain ⟨⟨A0, A1, A2, A3⟩, B0, B1, B2, B3⟩ := hSw; go_simp; try with_reducible rfl); (exact fun _ _ _ h => h); (try simp only [Act.put, xgD, xgE, xgF]))); refine tkE ?_)
      refine wpAnyU_done (by kernel_rfl) ?_ _
      have HQ2 : Hid (∀ q, q < k + 1 → lx j = F4 q → true = true) := fun _ _ _ => rfl
      clear hHeld hS CSP HQ
      go_wp2
      go_roundw
      case rel => exact ⟨k + 1, true, HLK.out, by go_num, rfl, HQ2.out, HXD.out⟩
      case measure => have := HLK.out; simp [intOf]; omega
    ·obtain rfl : k = c4 := by omega
     have hge : ¬ (k : Int) < (k : Int) := by omega
     have hfb : fb = true := by
      obtain ⟨q, hq, e⟩ := HFIN.out j HLT.out
      exact HQ.out q hq e
     subst hfb
     clear HQ
     go_wp2
     go_roundw
     case rel => exact ⟨j + 1, HLT.out, by go_num, HR2.out⟩
     case measure => have := HLT.out; simp [intOf]; omega
  ·obtain rfl : j = n1 := by omega
   have hge : ¬ (j : Int) < (j : Int) := by omega
   have HF := Lib.hid (HX8.out.trans HR.out)
   go_wp2
   go_ret
   exact ⟨rfl, HF.out⟩
end Go.Proofs.YtodiphjjdheoaaaGreat

namespace Go.Proofs.YtodiphjjdheoaaaGreat
open Go.ChangeShapes Go.WideShapes Go.ChangeAt Go.RowKit Go.Deep

namespace simplifySmaller
theorem own : ownKnob Tryz.prog.godebug = none := by kernel_rfl
set_option maxRecDepth 100000 in
theorem contract (H : Type) (enc : TypeId × Value → H) (W : World) (base : Nat) (args : Array Value) (ds gs : List (DataW H)) (before : List MemPlace)
  (hval : ∀ (j : Nat) t v, Tryz.f4.params[j]? = some t → args[j]? = some v → Value.okWide Tryz.prog W .any base t v)
  (hW : DataW.Whole enc Tryz.prog Tryz.f4.params.toList Rows.simplifySmallerSpec.vars false W args.toList ds gs before) :
  Calls Tryz.prog 4 args W fun e W' => ∃ v, e = .returned v ∧ Rows.simplifySmallerSpec.post enc Tryz.prog Tryz.f4 false true false false W args v W' := by
 have hW' := hW
 obtain ⟨p, q, hA0, hV, rfl, hfz, hnd⟩ := hW
 have hA : DataW.TrodAll enc Tryz.prog W 0 (fun _ => true) true Tryz.f4.params.toList args.toList ds p := hA0
 rw [Tryz.params4] at hA hval
 obtain ⟨v0, vs0, d0, ds0, p0, q0, hargs, rfl, rfl, h0, r0⟩ := trodAll_cons hA
 obtain ⟨rfl, rfl, rfl⟩ := trodAll_nil r0
 obtain rfl : args = #[v0] := by cases args; simp_all
 obtain ⟨rfl, rfl⟩ := trodVars_none hV
 obtain ⟨m0, rfl, g0⟩ := open_matrix 12 (hval 0 32 v0 rfl rfl) h0
 refine (law_smaller m0 W g0).mono fun e W' ⟨he, hg⟩ => ?_
 subst he
 refine ⟨_, rfl, post_true (tb := 4) (by kernel_rfl) ?_ rfl rfl (by kernel_rfl) Tryz.underlying4 hW' hg⟩
 rw [Tryz.params4]
 intro t ht
 simp only [List.mem_cons, List.not_mem_nil, or_false, or_self, or_self_left] at ht
 subst ht
 exact ⟨by kernel_rfl, of_decide_eq_true (by kernel_rfl)⟩
set_option maxRecDepth 100000 in
theorem lifted (os : Os) (started : os.Started) (H : Type) (enc : TypeId × Value → H) :
  ReturnsInHanded {} Tryz.checked os 4 .any (Rows.simplifySmallerSpec.pre6 enc Tryz.prog Tryz.f4 Rows.simplifySmallerRow.domain false) (Rows.simplifySmallerSpec.post enc Tryz.prog Tryz.f4 false true false false) := by
 refine returnsInHanded_of_change (C := Tryz.checked) own started (by kernel_rfl) Tryz.func4
  (ChangeSpec.witness6 (enc := enc) (C := Tryz.checked) false ⟨#[], #[.agg #[.int .i64 0, .int .i64 0, .int .i64 0, .bool false, .slice none 0 0, .slice none 0 0, .slice none 0 0]], []⟩ 8 (by kernel_rfl) (by kernel_rfl) (by kernel_rfl) (by kernel_rfl)) ?_
 intro W base args ds gs before hval hW _ _
 exact contract H enc W base args ds gs before hval hW
theorem kInp : (Rows.simplifySmallerRow.inPlace == Tryz.pinned.checked.prog.inPlace 4) = true := by kernel_rfl
theorem kUnf : (Rows.simplifySmallerRow.unfollowed == Tryz.pinned.checked.prog.unfollowed 4) = true := by kernel_rfl
theorem kRec : (Rows.simplifySmallerRow.recurses == Tryz.pinned.checked.prog.recurses 4) = true := by kernel_rfl
theorem kNam : (Rows.simplifySmallerRow.named == Tryz.pinned.checked.prog.varsNamed 4) = true := by kernel_rfl
theorem kLaid : laidOutB Tryz.pinned.checked.prog = true := by kernel_rfl
theorem closed : joinedFacts Tryz.pinned.checked.prog 4 Tryz.f4 Rows.simplifySmallerSpec Rows.simplifySmallerRow = true := by
 unfold joinedFacts
 rw [kInp, kUnf, kRec, kNam, kLaid]
 kernel_rfl
theorem proved : Rows.SimplifySmallerSaid :=
 OpenClaim.holds_of_wide (p := Tryz.pinned) (s := Rows.simplifySmallerSpec) (c := Rows.simplifySmallerRow) 4 Tryz.f4 rfl rfl rfl rfl rfl rfl rfl ⟨rfl, rfl, rfl, rfl, rfl⟩ rfl rfl rfl rfl rfl (by kernel_rfl) Tryz.func4 closed
  (of_decide_eq_true (by kernel_rfl)) (by unfold Func.isWrapper; first | (rw [if_pos (by decide +kernel)]; kernel_rfl) | (rw [if_neg (by decide +kernel)]; exact ⟨rfl, rfl⟩))
  (fun os started H enc _ => lifted os started H enc)
end simplifySmaller
end Go.Proofs.YtodiphjjdheoaaaGreat
