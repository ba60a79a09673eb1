/- Plain facts: monomial by monomial images of lists of terms; a variable replaced by a fraction. -/
import Derived.Test.YtjcceddloogiiaaGreatNr
set_option linter.unusedVariables false
set_option linter.unusedSimpArgs false

namespace Go.Proofs.YtjcceddloogiiaaGreat

def lin (f : Mo → Int × Mo) (l : List Tm) : List Tm := l.map fun t => (t.1 * (f t.2).1, (f t.2).2)
theorem lin_append (f : Mo → Int × Mo) (l r : List Tm) : lin f (l ++ r) = lin f l ++ lin f r := by simp [lin]
theorem lin_smul (f : Mo → Int × Mo) (c : Int) (l : List Tm) : lin f (smul c l) = smul c (lin f l) := by
 simp [lin, smul, List.map_map, Function.comp_def, Int.mul_assoc]
theorem lin_same {f : Mo → Int × Mo} {m0 : Mo} : ∀ {l : List Tm}, (∀ t ∈ l, t.2 = m0) → ∀ q, coefAt (lin f l) q = if (f m0).2 = q then coefAt l m0 * (f m0).1 else 0
 | [], _, q => by simp [lin, coefAt]
 | t :: l, h, q => by
  have ht := h t List.mem_cons_self
  have ih := lin_same (f := f) (fun s hs => h s (List.mem_cons_of_mem _ hs)) q
  show (if (f t.2).2 = q then t.1 * (f t.2).1 else 0) + coefAt (lin f l) q = _
  rw [ih, ht]
  simp only [coefAt]
  rw [if_pos ht]
  split
  ·rw [Int.add_mul]
  ·rfl
theorem lin_zero (f : Mo → Int × Mo) : ∀ (n : Nat) (l : List Tm), l.length ≤ n → Sim l [] → Sim (lin f l) []
 | _, [], _, _ => fun _ => rfl
 | 0, t :: l, h, _ => by simp at h
 | n + 1, t :: l, h, hs => by
  have hp := List.filter_append_perm (fun s : Tm => decide (s.2 ≠ t.2)) (t :: l)
  have h1 := lin_zero f n ((t :: l).filter fun s => decide (s.2 ≠ t.2)) (by
   rw [List.filter_cons_of_neg (by simp)]
   have := List.length_filter_le (fun s : Tm => decide (s.2 ≠ t.2)) l
   simp only [List.length_cons] at h
   omega) (fun m => by
    rw [coefAt_filter_ne]
    split
    ·rfl
    ·exact hs m)
  have h2 : ∀ q, coefAt (lin f ((t :: l).filter fun s => !decide (s.2 ≠ t.2))) q = 0 := fun q => by
   rw [lin_same (m0 := t.2) (fun s hs => by simpa using (List.mem_filter.1 hs).2)]
   have h3 : coefAt ((t :: l).filter fun s => !decide (s.2 ≠ t.2)) t.2 = 0 := by
    have h4 := coefAt_perm hp t.2
    rw [coefAt_append, coefAt_filter_ne, if_pos rfl, Int.zero_add] at h4
    rw [h4]; exact hs t.2
   rw [h3, Int.zero_mul, ite_self]
  intro q
  have h5 : (lin f ((t :: l).filter (fun s => decide (s.2 ≠ t.2)) ++ (t :: l).filter (fun s => !decide (s.2 ≠ t.2)))).Perm (lin f (t :: l)) := hp.map _
  rw [← coefAt_perm h5 q, lin_append, coefAt_append, h1 q, h2 q]; rfl
theorem Sim.lin {l r : List Tm} (h : Sim l r) (f : Mo → Int × Mo) : Sim (lin f l) (lin f r) := fun q => by
 have := lin_zero f _ (l ++ Go.Proofs.YtjcceddloogiiaaGreat.smul (-1) r) (Nat.le_refl _) (fun m => by rw [coefAt_append, coefAt_smul, h m]; show _ = (0 : Int); omega) q
 rw [lin_append, lin_smul, coefAt_append, coefAt_smul] at this
 have e : coefAt ([] : List Tm) q = 0 := rfl
 rw [e] at this
 omega
def wo (L : Nat) (m : Mo) : Mo := Mo.sub m (xp L (m.get L))
theorem get_wo {L : Nat} (h1 : 1 ≤ L) (h4 : L ≤ 4) (m : Mo) (k : Nat) : (wo L m).get k = if k = L then 0 else m.get k := by
 unfold wo
 rw [get_sub, get_xp L k _ h1 h4]
 split
 ·rename_i h; subst h; omega
 ·omega
theorem lin_nrm {f : Mo → Int × Mo} {K : Nat} : ∀ {l : List Tm}, (∀ t ∈ l, (f t.2).1.natAbs ≤ K) → nrm (lin f l) ≤ nrm l * K
 | [], _ => by simp [lin, nrm]
 | t :: l, h => by
  have ih := lin_nrm (f := f) (K := K) (l := l) fun s hs => h s (List.mem_cons_of_mem _ hs)
  have h1 := h t List.mem_cons_self
  show (t.1 * (f t.2).1).natAbs + nrm (lin f l) ≤ (t.1.natAbs + nrm l) * K
  rw [Int.natAbs_mul, Nat.add_mul]
  have := Nat.mul_le_mul_left t.1.natAbs h1
  omega
def put (L : Nat) (x : Rat) (a : Nat → Rat) : Nat → Rat := fun i => if i = L - 1 then x else a i
end Go.Proofs.YtjcceddloogiiaaGreat
