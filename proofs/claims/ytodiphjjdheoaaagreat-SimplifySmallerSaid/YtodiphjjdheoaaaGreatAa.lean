/- Plain facts: monomial by monomial images of lists of terms; a variable replaced by a fraction. -/
import Derived.Test.YtodiphjjdheoaaaGreatNr
set_option linter.unusedVariables false
set_option linter.unusedSimpArgs false

namespace Go.Proofs.YtodiphjjdheoaaaGreat

def lin (f : Mo → Int × Mo) (l : List Tm) : List Tm := l.map fun t => (t.1 * (f t.2).1, (f t.2).2)
theorem lin_append (f : Mo → Int × Mo) (l r : List Tm) : lin f (l ++ r) = lin f l ++ lin f r := by simp [lin]
theorem lin_smul (f : Mo → Int × Mo) (c : Int) (l : List Tm) : lin f (smul c l) = smul c (lin f l) := by
 simp [lin, smul, List.map_map, Function.comp_def, Int.mul_assoc]
theorem lin_same {f : Mo → Int × Mo} {m0 : Mo} : ∀ {l : List Tm}, (∀ t ∈ l, t.2 = m0) → ∀ q, coefAt (lin f l) q = if (f m0).2 = q then coefAt l m0 * (f m0).1 else 0
 | [], _, q => by simp [lin, coefAt]
 | t :: l, h, q => by
  have ht := h t List.mem_cons_self
  have ih := lin_same (f := f) (fun s hs => h s (List.mem_cons_of_mem _ hs)) q
  show (if (f t.2).2 = q then t.1 * (f t.2).1 else 0) + coefAt (lin f l) q = _
  rw [ih, ht]
  simp only [coefAt]
  rw [if_pos ht]
  split
  ·rw [Int.add_mul]
  ·rfl
theorem lin_zero (f : Mo → Int × Mo) : ∀ (n : Nat) (l : List Tm), l.length ≤ n → Sim l [] → Sim (lin f l) []
 | _, [], _, _ => fun _ => rfl
 | 0, t :: l, h, _ => by simp at h
 | n + 1, t :: l, h, hs => by
  have hp := List.filter_append_perm (fun s : Tm => decide (s.2 ≠ t.2)) (t :: l)
  have h1 := lin_zero f n ((t :: l).filter fun s => decide (s.2 ≠ t.2)) (by
   rw [List.filter_cons_of_neg (by simp)]
   have := List.length_filter_le (fun s : Tm => decide (s.2 ≠ t.2)) l
   simp only [List.length_cons] at h
   omega) (fun m => by
    rw [coefAt_filter_ne]
    split
    ·rfl
    ·exact hs m)
  have h2 : ∀ q, coefAt (lin f ((t :: l).filter fun s => !decide (s.2 ≠ t.2))) q = 0 := fun q => by
   rw [lin_same (m0 := t.2) (fun s hs => by simpa using (List.mem_filter.1 hs).2)]
   have h3 : coefAt ((t :: l).filter fun s => !decide (s.2 ≠ t.2)) t.2 = 0 := by
    have h4 := coefAt_perm hp t.2
    rw [coefAt_append, coefAt_filter_ne, if_pos rfl, Int.zero_add] at h4
    rw [h4]; exact hs t.2
   rw [h3, Int.zero_mul, ite_self]
  intro q
  have h5 : (lin f ((t :: l).filter (fun s => decide (s.2 ≠ t.2)) ++ (t :: l).filter (fun s => !decide (s.2 ≠ t.2)))).Perm (lin f (t :: l)) := hp.map _
  rw [← coefAt_perm h5 q, lin_append, coefAt_append, h1 q, h2 q]; rfl
theorem Sim.lin {l r : List Tm} (h : Sim l r) (f : Mo → Int × Mo) : Sim (lin f l) (lin f r) := fun q => by
 have := lin_zero f _ (l ++ Go.Proofs.YtodiphjjdheoaaaGreat.smul (-1) r) (Nat.le_refl _) (fun m => by rw [coefAt_append, coefAt_smul, h m]; show _ = (0 : Int); omega) q
 rw [lin_append, lin_smul, coefAt_append, coefAt_smul] at this
 have e : coefAt ([] : List Tm) q = 0 := rfl
 rw [e] at this
 omega
def wo (L : Nat) (m : Mo) : Mo := Mo.sub m (xp L (m.get L))
theorem get_wo {L : Nat} (h1 : 1 ≤ L) (h4 : L ≤ 4) (m : Mo) (k : Nat) : (wo L m).get k = if k = L then 0 else m.get k := by
 unfold wo
 rw [get_sub, get_xp L k _ h1 h4]
 split
 ·rename_i h; subst h; omega
 ·omega
def atF (L n : Nat) (u d : Int) (m : Mo) : Int × Mo := (u ^ (m.get L).toNat * d ^ (n - (m.get L).toNat), wo L m)
def atL (L n : Nat) (u d : Int) (l : List Tm) : List Tm := lin (atF L n u d) l
def hL (u d : Int) (P : Nat → List Tm) (m : Nat) : Nat → List Tm
 | 0 => P m
 | k + 1 => smul u (hL u d P m k) ++ smul (d ^ (k + 1)) (P (m - 1 - k))
theorem lin_nrm {f : Mo → Int × Mo} {K : Nat} : ∀ {l : List Tm}, (∀ t ∈ l, (f t.2).1.natAbs ≤ K) → nrm (lin f l) ≤ nrm l * K
 | [], _ => by simp [lin, nrm]
 | t :: l, h => by
  have ih := lin_nrm (f := f) (K := K) (l := l) fun s hs => h s (List.mem_cons_of_mem _ hs)
  have h1 := h t List.mem_cons_self
  show (t.1 * (f t.2).1).natAbs + nrm (lin f l) ≤ (t.1.natAbs + nrm l) * K
  rw [Int.natAbs_mul, Nat.add_mul]
  have := Nat.mul_le_mul_left t.1.natAbs h1
  omega
theorem pow_le_X {u : Int} {X : Nat} (h : u.natAbs ≤ X) (e : Nat) : (u ^ e).natAbs ≤ X ^ e := by
 rw [Int.natAbs_pow]; exact Nat.pow_le_pow_left h e
theorem evT_lin {a b : Nat → Rat} {f : Mo → Int × Mo} {k : Rat} : ∀ {l : List Tm}, (∀ t ∈ l, ((f t.2).1 : Rat) * evM a (f t.2).2 = k * evM b t.2) → evT a (lin f l) = k * evT b l
 | [], _ => by show evT a [] = _; simp [evT]
 | t :: l, h => by
  have ih := evT_lin (a := a) (b := b) (f := f) (k := k) (l := l) fun s hs => h s (List.mem_cons_of_mem _ hs)
  have h1 := h t List.mem_cons_self
  show ((t.1 * (f t.2).1 : Int) : Rat) * evM a (f t.2).2 + evT a (lin f l) = k * ((t.1 : Rat) * evM b t.2 + evT b l)
  rw [ih, Rat.intCast_mul, Rat.mul_assoc, h1]
  generalize evM b t.2 = x
  generalize evT b l = y
  grind
theorem rat_pow_mul (x y : Rat) (n : Nat) : (x * y) ^ n = x ^ n * y ^ n := by
 induction n with
 | zero => simp
 | succ n ih => rw [Rat.pow_succ, Rat.pow_succ, Rat.pow_succ, ih]; grind
theorem intCast_pow (x : Int) (n : Nat) : ((x ^ n : Int) : Rat) = (x : Rat) ^ n := by
 induction n with
 | zero => rw [Int.pow_zero, Rat.pow_zero]; rfl
 | succ n ih => rw [Int.pow_succ, Rat.pow_succ, Rat.intCast_mul, ih]
theorem frac_pow {u d : Int} {x : Rat} (hx : (u : Rat) = (d : Rat) * x) {n e : Nat} (he : e ≤ n) : ((u ^ e * d ^ (n - e) : Int) : Rat) = (d : Rat) ^ n * x ^ e := by
 rw [Rat.intCast_mul, intCast_pow, intCast_pow, hx, rat_pow_mul]
 have : (d : Rat) ^ n = (d : Rat) ^ e * (d : Rat) ^ (n - e) := by rw [← rpow_add]; congr 1; omega
 rw [this]
 generalize (d : Rat) ^ e = p
 generalize (d : Rat) ^ (n - e) = q
 generalize x ^ e = r
 grind
def put (L : Nat) (x : Rat) (a : Nat → Rat) : Nat → Rat := fun i => if i = L - 1 then x else a i
theorem evM_put {L : Nat} {x : Rat} {a : Nat → Rat} (h1 : 1 ≤ L) (h4 : L ≤ 4) (m : Mo) : evM (put L x a) m = x ^ (m.get L).toNat * evM a (wo L m) := by
 have hw := get_wo h1 h4 m
 have w1 : (wo L m).a = (wo L m).get 1 := rfl
 have w2 : (wo L m).b = (wo L m).get 2 := rfl
 have w3 : (wo L m).c = (wo L m).get 3 := rfl
 have w4 : (wo L m).d = (wo L m).get 4 := rfl
 unfold evM
 rw [w1, w2, w3, w4, hw, hw, hw, hw]
 rcases lev_cases h1 h4 with rfl | rfl | rfl | rfl <;> simp [put, Mo.get] <;> grind
theorem evT_at {L n : Nat} {u d : Int} {x : Rat} {a : Nat → Rat} (h1 : 1 ≤ L) (h4 : L ≤ 4) (hx : (u : Rat) = (d : Rat) * x) {l : List Tm} (h : ∀ t ∈ l, (t.2.get L).toNat ≤ n) : evT a (atL L n u d l) = (d : Rat) ^ n * evT (put L x a) l := by
 refine evT_lin fun t ht => ?_
 rw [evM_put h1 h4]
 show ((u ^ (t.2.get L).toNat * d ^ (n - (t.2.get L).toNat) : Int) : Rat) * evM a (wo L t.2) = _
 rw [frac_pow hx (h t ht), Rat.mul_assoc]
theorem at_get {L n : Nat} {u d : Int} (h1 : 1 ≤ L) (h4 : L ≤ 4) {l : List Tm} : ∀ t ∈ atL L n u d l, t.2.get L = 0 := by
 intro t ht
 obtain ⟨s, _, rfl⟩ := List.mem_map.1 ht
 show (wo L s.2).get L = 0
 rw [get_wo h1 h4, if_pos rfl]
theorem at_nn {L n : Nat} {u d : Int} (h1 : 1 ≤ L) (h4 : L ≤ 4) {l : List Tm} (h : ∀ t ∈ l, t.2.nn = true) : ∀ t ∈ atL L n u d l, t.2.nn = true := by
 intro t ht
 obtain ⟨s, hs, rfl⟩ := List.mem_map.1 ht
 have h2 := (Mo.nn_iff _).1 (h s hs)
 show (wo L s.2).nn = true
 have hw := get_wo h1 h4 s.2
 rw [Mo.nn_iff]
 have w1 : (wo L s.2).a = (wo L s.2).get 1 := rfl
 have w2 : (wo L s.2).b = (wo L s.2).get 2 := rfl
 have w3 : (wo L s.2).c = (wo L s.2).get 3 := rfl
 have w4 : (wo L s.2).d = (wo L s.2).get 4 := rfl
 have g1 : s.2.get 1 = s.2.a := rfl
 have g2 : s.2.get 2 = s.2.b := rfl
 have g3 : s.2.get 3 = s.2.c := rfl
 have g4 : s.2.get 4 = s.2.d := rfl
 rw [w1, w2, w3, w4, hw, hw, hw, hw, g1, g2, g3, g4]
 refine ⟨?_, ?_, ?_, ?_⟩ <;> split <;> omega
end Go.Proofs.YtodiphjjdheoaaaGreat
