/- The negation of a simple matrix; the number of atoms (plain). -/
import Derived.Test.YtodiphjjdheoaaaGreatId
import Derived.Test.YtodiphjjdheoaaaGreatLa
set_option linter.unusedVariables false
set_option linter.unusedSimpArgs false

namespace Go.Proofs.YtodiphjjdheoaaaGreat

mutual
def notT : TM → TM
 | .nd k r l ks => if k = 1 then tmB false else if k = 2 then .nd 2 (compl r) l [] else if k = 3 then .nd 4 0 [] (notL ks) else if k = 4 then .nd 3 0 [] (notL ks) else tmB true
def notL : List TM → List TM
 | [] => []
 | t :: ts => notT t :: notL ts
end
theorem notL_map (ks : List TM) : notL ks = ks.map notT := by
 induction ks with
 | nil => unfold notL; rfl
 | cons t ts ih => unfold notL; rw [ih]; rfl
mutual
def natT : TM → Nat
 | .nd k _ _ ks => if k = 2 then 1 else if k = 3 then natL ks else if k = 4 then natL ks else 0
def natL : List TM → Nat
 | [] => 0
 | t :: ts => natT t + natL ts
end
theorem natL_nil : natL [] = 0 := by unfold natL; rfl
theorem natL_cons (t : TM) (ts : List TM) : natL (t :: ts) = natT t + natL ts := by conv => lhs; unfold natL
theorem natT_two (t : TM) (h : t.kd = 2) : natT t = 1 := by
 cases t with
 | nd k r l ks => change k = 2 at h; subst h; unfold natT; rfl
theorem natT_join (o : Bool) (t : TM) (h : t.kd = if o then 4 else 3) : natT t = natL t.ks := by
 cases t with
 | nd k r l ks => change k = _ at h; subst h; cases o <;> (conv => lhs; unfold natT) <;> rfl
theorem natT_b (t : TM) (b : Bool) (h : t.kd = tk b) : natT t = 0 := by
 cases t with
 | nd k r l ks => change k = _ at h; subst h; cases b <;> (unfold natT; rfl)
theorem notT_b (b : Bool) : notT (tmB b) = tmB (!b) := by cases b <;> (unfold tmB notT; rfl)
theorem notT_two (r : Int) (l : List Tm) (ks : List TM) : notT (.nd 2 r l ks) = .nd 2 (compl r) l [] := by unfold notT; rfl
theorem notT_join (o : Bool) (r : Int) (l : List Tm) (ks : List TM) : notT (.nd (if o then 4 else 3) r l ks) = .nd (if !o then 4 else 3) 0 [] (ks.map notT) := by
 cases o <;> (unfold notT; rw [notL_map]; rfl)
theorem compl_range {r : Int} (h1 : 1 ≤ r) (h6 : r ≤ 6) : 1 ≤ compl r ∧ compl r ≤ 6 ∧ compl (compl r) = r := by
 have : r = 1 ∨ r = 2 ∨ r = 3 ∨ r = 4 ∨ r = 5 ∨ r = 6 := by omega
 rcases this with rfl | rfl | rfl | rfl | rfl | rfl <;> decide
theorem notT_notT {t : TM} (h : SmpT t) : notT (notT t) = t := by
 induction h with
 | atom r l h1 h6 => rw [notT_two, notT_two, (compl_range h1 h6).2.2]
 | join o ks h1 h2 h3 h4 ih =>
  rw [notT_join, notT_join, Bool.not_not, List.map_map]
  congr 1
  conv => rhs; rw [← List.map_id ks]
  exact List.map_congr_left fun t ht => ih t ht
theorem notT_kd {t : TM} (h : SmpT t) : (t.kd = 2 ∧ (notT t).kd = 2 ∧ (notT t).l = t.l) ∨ ∃ o : Bool, t.kd = (if o then 4 else 3) ∧ (notT t).kd = if !o then 4 else 3 := by
 cases h with
 | atom r l => rw [notT_two]; exact .inl ⟨rfl, rfl, rfl⟩
 | join o ks => rw [notT_join]; exact .inr ⟨o, rfl, rfl⟩
theorem nm_not {a b : TM} (ha : SmpT a) (hb : SmpT b) (h : Nm b a) : Nm (notT b) (notT a) := by
 refine ⟨fun ⟨h1, h2, h3⟩ => ?_, fun ⟨h1, h2, h3⟩ => ?_⟩
 ·have e : a = b := by rw [← notT_notT ha, ← notT_notT hb, h3]
  refine h.1 ⟨by rw [e], fun hc => ?_, e⟩
  rcases notT_kd hb with g | ⟨o, g1, g2⟩
  ·exact h2 g.2.1
  ·rw [g1] at hc; cases o <;> exact absurd hc (by decide)
 ·rcases notT_kd hb with g | ⟨o, g1, g2⟩
  ·rcases notT_kd ha with k | ⟨o, k1, k2⟩
   ·exact h.2 ⟨by rw [k.1, g.1], g.1, by rw [← k.2.2, ← g.2.2]; exact h3⟩
   ·rw [h1, h2] at k2; cases o <;> exact absurd k2 (by decide)
  ·rw [h2] at g2; cases o <;> exact absurd g2 (by decide)
theorem notT_smp {t : TM} (h : SmpT t) : SmpT (notT t) := by
 induction h with
 | atom r l h1 h6 h3 h4 => rw [notT_two]; exact .atom _ _ (compl_range h1 h6).1 (compl_range h1 h6).2.1 h3 h4
 | join o ks h1 h2 h3 h4 ih =>
  rw [notT_join]
  refine .join (!o) _ (by rw [List.length_map]; exact h1) (fun k hk => ?_) (fun k hk => ?_) ?_
  ·obtain ⟨t, ht, rfl⟩ := List.mem_map.1 hk; exact ih t ht
  ·obtain ⟨t, ht, rfl⟩ := List.mem_map.1 hk
   have := h3 t ht
   rcases notT_kd (h2 t ht) with g | ⟨o', g1, g2⟩
   ·rw [g.2.1]; cases o <;> decide
   ·rw [g1] at this
    rw [g2]
    cases o <;> cases o' <;> simp at this ⊢
  ·rw [List.pairwise_map]
   exact h4.imp_of_mem fun ha hb hn => nm_not (h2 _ ha) (h2 _ hb) hn
theorem notT_smS {t : TM} (h : SmpS t) : SmpS (notT t) := by
 rcases h with ⟨b, rfl⟩ | h
 ·exact .inl ⟨!b, notT_b b⟩
 ·exact .inr (notT_smp h)
theorem opB_dm (o x y : Bool) : opB (!o) (!x) (!y) = !opB o x y := by cases o <;> cases x <;> cases y <;> decide
theorem jnT_not (o : Bool) (z : Nat → Int) : ∀ ks : List TM, (∀ t ∈ ks, trT z (notT t) = !trT z t) → jnT (!o) z (ks.map notT) = !jnT o z ks
 | [], _ => by rw [List.map_nil, jnT_nil, jnT_nil]
 | t :: ts, h => by rw [List.map_cons, jnT_cons, jnT_cons, h t (by simp), jnT_not o z ts fun s hs => h s (by simp [hs]), opB_dm]
theorem notT_trT (z : Nat → Int) {t : TM} (h : SmpT t) : trT z (notT t) = !trT z t := by
 induction h with
 | atom r l h1 h6 => rw [notT_two, trT_two z _ rfl, trT_two z _ rfl]; exact perm_compl r (sign3 _)
 | join o ks h1 h2 h3 h4 ih => rw [notT_join, trT_join (!o) z _ rfl, trT_join o z _ rfl]; exact jnT_not o z ks ih
theorem notT_tr (z : Nat → Int) {t : TM} (h : SmpS t) : trT z (notT t) = !trT z t := by
 rcases h with ⟨b, rfl⟩ | h
 ·rw [notT_b, trT_b z _ _ rfl, trT_b z _ _ rfl]
 ·exact notT_trT z h
theorem natL_not : ∀ ks : List TM, (∀ t ∈ ks, natT (notT t) = natT t) → natL (ks.map notT) = natL ks
 | [], _ => rfl
 | t :: ts, h => by rw [List.map_cons, natL_cons, natL_cons, h t (by simp), natL_not ts fun s hs => h s (by simp [hs])]
theorem notT_natT {t : TM} (h : SmpT t) : natT (notT t) = natT t := by
 induction h with
 | atom r l h1 h6 => rw [notT_two, natT_two _ rfl, natT_two _ rfl]
 | join o ks h1 h2 h3 h4 ih => rw [notT_join, natT_join (!o) _ rfl, natT_join o _ rfl]; exact natL_not ks ih
theorem notT_nat {t : TM} (h : SmpS t) : natT (notT t) = natT t := by
 rcases h with ⟨b, rfl⟩ | h
 ·rw [notT_b, natT_b _ (!b) rfl, natT_b _ b rfl]
 ·exact notT_natT h
theorem natL_append (a b : List TM) : natL (a ++ b) = natL a + natL b := by
 induction a with
 | nil => rw [List.nil_append, natL_nil, Nat.zero_add]
 | cons t ts ih => rw [List.cons_append, natL_cons, natL_cons, ih, Nat.add_assoc]
theorem natT_sz : ∀ t : TM, natT t ≤ t.sz
 | .nd k r l ks => by
  have ih : ∀ L : List TM, (∀ t ∈ L, natT t ≤ t.sz) → natL L ≤ szL L := by
   intro L
   induction L with
   | nil => intro _; rw [natL_nil]; omega
   | cons t ts ih =>
    intro h
    have h1 := ih fun s hs => h s (by simp [hs])
    have h2 := h t (by simp)
    rw [natL_cons, szL_cons]; omega
  have hk := ih ks fun t ht => natT_sz t
  have e : (TM.nd k r l ks).sz = 1 + szL ks := by unfold TM.sz; rfl
  rw [e]
  unfold natT
  split
  ·omega
  split
  ·omega
  split
  ·omega
  ·omega
 termination_by t => SizeOf.sizeOf t
 decreasing_by
  have := List.sizeOf_lt_of_mem ht
  simp_wf
  omega
end Go.Proofs.YtodiphjjdheoaaaGreat
