/- Folds of And and Or (plain). -/
import Derived.Test.YtfbdckffjjladaaGreatIa
import Derived.Test.YtfbdckffjjladaaGreatGs
set_option linter.unusedVariables false
set_option linter.unusedSimpArgs false

namespace Go.Proofs.YtfbdckffjjladaaGreat

abbrev bAnd (a b : Int) : Int := bits BinOp.and .i64 (sg a) (sg b)
abbrev bOr (a b : Int) : Int := bits BinOp.or .i64 (sg a) (sg b)
def HdB (o : Bool) (l : List Tm) (b : Int) (ks : List TM) : Prop := ∃ k ts, ks = k :: ts ∧ k.kd = 2 ∧ k.l = l ∧ (if o then bOr k.rl b = 7 else bAnd k.rl b = 0)
theorem comb_hd (o : Bool) (a x b : Int) (h : if o then bOr a b = 7 else bAnd a b = 0) (hc : (comb o a x).2 = true) : if o then bOr (comb o a x).1 b = 7 else bAnd (comb o a x).1 b = 0 := by
 revert h hc
 unfold comb bOr bAnd
 rcases sg_cases a with ha | ha | ha | ha | ha | ha <;> rcases sg_cases b with hb | hb | hb | hb | hb | hb <;> rcases sg_cases x with hx | hx | hx | hx | hx | hx <;> rw [ha, hb, hx] <;> cases o <;> decide
theorem comb_end (o : Bool) (a q b : Int) (h : if o then bOr a b = 7 else bAnd a b = 0) (hq : if o then bOr q b = sg q else q = b) : (comb o a q).2 = false := by
 cases o
 ·simp only [Bool.false_eq_true, if_false] at h hq
  subst hq
  unfold comb
  simp only [Bool.false_eq_true, if_false]
  change (rl (bAnd a q)).2 = false
  rw [h]; rfl
 ·simp only [if_true] at h hq
  revert h hq
  unfold comb bOr
  rcases sg_cases a with ha | ha | ha | ha | ha | ha <;> rcases sg_cases b with hb | hb | hb | hb | hb | hb <;> rcases sg_cases q with hx | hx | hx | hx | hx | hx <;> rw [ha, hb, hx] <;> decide
def HasB (o : Bool) (l : List Tm) (b : Int) (q : TM) : Prop := q.kd = 2 ∧ q.l = l ∧ (if o then bOr q.rl b = sg q.rl else q.rl = b)
theorem incl_hd {o : Bool} {l : List Tm} {b : Int} {ks : List TM} (p : TM) (h : HdB o l b ks) (hk : (incl o p ks).2 = true) : HdB o l b (incl o p ks).1 ∧ ¬ HasB o l b p := by
 obtain ⟨k, ts, rfl, h1, h2, h3⟩ := h
 unfold incl at hk ⊢
 split
 ·rename_i hc
  exact absurd h1 (by rw [hc.1]; exact hc.2.1)
 ·split
  ·rename_i hn hc
   rw [if_neg hn, if_pos hc] at hk
   refine ⟨⟨_, _, rfl, h1, h2, comb_hd o _ _ _ h3 hk⟩, fun hb => ?_⟩
   have := comb_end o k.rl p.rl b h3 hb.2.2
   simp only at hk
   rw [this] at hk
   cases hk
  ·rename_i hn hc
   exact ⟨⟨_, _, rfl, h1, h2, h3⟩, fun hb => hc ⟨by rw [h1, hb.1], hb.1, by rw [h2, hb.2.1]⟩⟩
theorem inclL_hd {o : Bool} {l : List Tm} {b : Int} : ∀ (ps ks ks' : List TM), HdB o l b ks → inclL o ps ks = some ks' → HdB o l b ks' ∧ ∀ q ∈ ps, ¬ HasB o l b q
 | [], ks, ks', h, e => by unfold inclL at e; cases e; exact ⟨h, fun q hq => absurd hq (by simp)⟩
 | p :: ps, ks, ks', h, e => by
  unfold inclL at e
  split at e
  ·rename_i hk
   obtain ⟨h1, h2⟩ := incl_hd p h hk
   obtain ⟨h3, h4⟩ := inclL_hd ps _ _ h1 e
   refine ⟨h3, fun q hq => ?_⟩
   rcases List.mem_cons.1 hq with rfl | hq
   ·exact h2
   ·exact h4 q hq
  ·cases e
theorem stepT_hd {o : Bool} {l : List Tm} {b : Int} {s : TM} {ks ks' : List TM} (h : HdB o l b ks) (e : stepT o ks s = some ks') : HdB o l b ks' ∧ ¬ HasB o l b s ∧ (s.kd = (if o then 4 else 3) → ∀ q ∈ s.ks, ¬ HasB o l b q) := by
 unfold stepT at e
 split at e
 ·cases e
 ·rename_i h0
  split at e
  ·rename_i h1
   cases e
   refine ⟨h, fun hb => ?_, fun h4 => ?_⟩
   ·rw [hb.1] at h1; revert h1; cases o <;> decide
   ·rw [h4] at h1; exact absurd h1 (by cases o <;> decide)
  ·by_cases h4 : s.kd = (if o then 4 else 3)
   ·rw [if_pos h4] at e
    obtain ⟨g1, g2⟩ := inclL_hd _ _ _ h e
    refine ⟨g1, fun hb => ?_, fun _ => g2⟩
    rw [hb.1] at h4; revert h4; cases o <;> decide
   ·rw [if_neg h4] at e
    obtain ⟨g1, g2⟩ := inclL_hd _ _ _ h e
    exact ⟨g1, g2 s (by simp), fun h => absurd h h4⟩
theorem incl_has {l : List Tm} {b : TM} (h2 : b.kd = 2) (hl : b.l = l) : ∀ ks : List TM, (incl true b ks).2 = true → ∃ q ∈ (incl true b ks).1, HasB true l b.rl q
 | [], _ => by
  unfold incl
  refine ⟨b, by simp, h2, hl, ?_⟩
  simp only [if_true]
  unfold bOr
  rcases sg_cases b.rl with hb | hb | hb | hb | hb | hb <;> rw [hb] <;> decide
 | k :: ks, hk => by
  unfold incl at hk ⊢
  split
  ·rename_i hc
   exact absurd h2 hc.2.1
  ·split
   ·rename_i hn hc
    rw [if_neg hn, if_pos hc] at hk
    refine ⟨_, List.mem_cons_self .., hc.1.trans h2, hc.2.2.trans hl, ?_⟩
    simp only at hk
    change if true = true then bOr (comb true k.rl b.rl).1 b.rl = sg (comb true k.rl b.rl).1 else _
    rw [if_pos rfl]
    revert hk
    unfold comb bOr
    rcases sg_cases k.rl with ha | ha | ha | ha | ha | ha <;> rcases sg_cases b.rl with hb | hb | hb | hb | hb | hb <;> rw [ha, hb] <;> decide
   ·rename_i hn hc
    rw [if_neg hn, if_neg hc] at hk
    obtain ⟨q, hq, hb⟩ := incl_has h2 hl ks hk
    exact ⟨q, List.mem_cons_of_mem _ hq, hb⟩
theorem ofT_b (b : Bool) : ofT (tmB b) = tmB b := by
 unfold tmB ofT
 cases b
 ·rw [if_neg (by decide), if_neg (by decide), if_neg (by decide), if_neg (by decide)]; rfl
 ·rw [if_pos (by decide)]; rfl
theorem ofT_join (o : Bool) (r : Int) (l : List Tm) (ks : List TM) : ofT (.nd (if o then 4 else 3) r l ks) = finT o (stepL o (ks.map ofT) []) := by
 rw [← ofL_map]
 cases o
 ·conv => lhs; unfold ofT
  rfl
 ·conv => lhs; unfold ofT
  rfl
theorem bind_none {ks : Option (List TM)} : (ks.bind fun _ => (none : Option (List TM))) = none := by cases ks <;> rfl
theorem fold_o (o : Bool) (r : Int) (l : List Tm) (a b : List TM) (s : TM) (h : (ofT s).kd = tk o) : ofT (.nd (if o then 4 else 3) r l (a ++ s :: b)) = tmB o := by
 rw [ofT_join, List.map_append, List.map_cons, stepL_append]
 have : ∀ x, (Option.bind x (stepL o (ofT s :: b.map ofT))) = none := fun x => by
  cases x with
  | none => rfl
  | some ks => 
   show stepL o (ofT s :: b.map ofT) ks = none
   unfold stepL
   rw [stepT_o o ks _ h]; rfl
 rw [this]; rfl
def compl (r : Int) : Int := if r = 1 then 5 else if r = 2 then 6 else if r = 4 then 3 else if r = 5 then 1 else if r = 6 then 2 else 4
theorem arel_compl (h r : Int) : bOr (arel h r) (arel h (compl r)) = 7 ∧ bAnd (arel h r) (arel h (compl r)) = 0 := by
 have e : sg (compl r) = 7 - sg r := by unfold compl sg; repeat' split
                                        all_goals omega
 unfold arel bOr bAnd
 rw [e]
 rcases sg_cases r with hr | hr | hr | hr | hr | hr <;> rw [hr] <;> by_cases h0 : h < 0 <;> simp only [h0, if_true, if_false] <;> decide
theorem perm_compl (r : Int) {s : Int} (hs : s = -1 ∨ s = 0 ∨ s = 1) : perm (compl r) s = !perm r s := by
 have e : sg (compl r) = 7 - sg r := by unfold compl sg; repeat' split
                                        all_goals omega
 rw [← sg3 hs, ← sg3 hs, e]
 rcases sg_cases r with hr | hr | hr | hr | hr | hr <;> rw [hr] <;> rcases hs with rfl | rfl | rfl <;> decide
theorem hd_three {p p3 : List Tm} (h : Sim p3 (smul 3 p)) : hd p3 = 3 * hd p := by
 rw [h.hd]
 unfold hd
 rw [← norm_smul (by decide)]
 cases norm p with
 | nil => rfl
 | cons t l => rfl
theorem const_three {p p3 : List Tm} (h : Sim p3 (smul 3 p)) : Sim p3 [(hd p3, Mo.zero)] ↔ Sim p [(hd p, Mo.zero)] := by
 have e : ∀ m, coefAt p3 m = 3 * coefAt p m := fun m => by rw [h m, coefAt_smul]
 have e2 : ∀ (c : Int) m, coefAt [(c, Mo.zero)] m = if Mo.zero = m then c else 0 := fun c m => by simp [coefAt]
 rw [hd_three h]
 constructor
 ·intro hs m
  have := hs m
  rw [e, e2] at this
  rw [e2]
  split at this <;> rename_i hm
  ·rw [if_pos hm]; omega
  ·rw [if_neg hm]; omega
 ·intro hs m
  have := hs m
  rw [e2] at this
  rw [e, e2, this]
  split <;> omega
theorem arel_three (h r : Int) : arel (3 * h) r = arel h r := by
 unfold arel
 by_cases h0 : h < 0
 ·rw [if_pos h0, if_pos (by omega)]
 ·rw [if_neg h0, if_neg (by omega)]
theorem sign_three (h : Int) : (3 * h).sign = h.sign := by rw [Int.sign_mul, show (3 : Int).sign = 1 from rfl, Int.one_mul]
theorem atom_two {p p3 : List Tm} (r : Int) (h : Sim p3 (smul 3 p)) : (∃ b, atomT p r = tmB b ∧ atomT p3 (compl r) = tmB (!b)) ∨ ∃ a b l, bOr a b = 7 ∧ bAnd a b = 0 ∧ atomT p r = .nd 2 a l [] ∧ atomT p3 (compl r) = .nd 2 b l [] := by
 by_cases hc : Sim p [(hd p, Mo.zero)]
 ·left
  refine ⟨perm r (hd p).sign, ?_, ?_⟩
  ·unfold atomT; rw [if_pos hc, sg3 (sign3 _)]
  ·unfold atomT; rw [if_pos ((const_three h).2 hc), sg3 (sign3 _), hd_three h, sign_three, perm_compl _ (sign3 _)]
 ·right
  have hac := arel_compl (hd p) r
  refine ⟨arel (hd p) r, arel (hd p) (compl r), snorm p, hac.1, hac.2, ?_, ?_⟩
  ·unfold atomT; rw [if_neg hc]
  ·unfold atomT; rw [if_neg fun h' => hc ((const_three h).1 h'), hd_three h, arel_three, h.snorm, snorm_smulF (by decide)]
theorem ofT_two (r : Int) (l : List Tm) (ks : List TM) : ofT (.nd 2 r l ks) = atomT l r := by
 conv => lhs; unfold ofT
 rfl
theorem first_hd (o : Bool) (a b : Int) (l : List Tm) (h : if o then bOr a b = 7 else bAnd a b = 0) : ∃ ks, stepT o [] (.nd 2 a l []) = some ks ∧ HdB o l b ks := by
 refine ⟨[.nd 2 a l []], ?_, _, _, rfl, rfl, rfl, h⟩
 rw [stepT_two o _ _ rfl]
 unfold inclL incl
 rw [if_pos rfl]
 unfold inclL
 rfl
theorem fold3 (p p3 : List Tm) (r : Int) (m : TM) (h : Sim p3 (smul 3 p)) (r0 : Int) (l0 : List Tm) : (ofT (.nd 3 r0 l0 [.nd 2 r p [], m, .nd 2 (compl r) p3 []])).kd = 0 := by
 have key : ofT (.nd 3 r0 l0 [.nd 2 r p [], m, .nd 2 (compl r) p3 []]) = tmB false := by
  rcases atom_two r h with ⟨b, h1, h2⟩ | ⟨a, b, l, _, h0, h1, h2⟩
  ·cases b
   ·exact fold_o false r0 l0 [] [m, .nd 2 (compl r) p3 []] (.nd 2 r p []) (by rw [ofT_two, h1]; rfl)
   ·exact fold_o false r0 l0 [.nd 2 r p [], m] [] (.nd 2 (compl r) p3 []) (by rw [ofT_two, h2]; rfl)
  ·refine (ofT_join false r0 l0 _).trans ?_
   simp only [List.map_cons, List.map_nil]
   rw [ofT_two, ofT_two, h1, h2]
   obtain ⟨ks, e1, k1⟩ := first_hd false a b l h0
   unfold stepL
   rw [e1, Option.bind_some]
   unfold stepL
   cases e2 : stepT false ks (ofT m) with
   | none => rfl
   | some ks2 =>
    rw [Option.bind_some]
    obtain ⟨k2, _⟩ := stepT_hd k1 e2
    unfold stepL
    cases e3 : stepT false ks2 (.nd 2 b l []) with
    | none => rfl
    | some ks3 => exact absurd (show HasB false l b (.nd 2 b l []) from ⟨rfl, rfl, rfl⟩) (stepT_hd k2 e3).2.1
 rw [key]; rfl
theorem fold4 (p p3 : List Tm) (r : Int) (m : TM) (h : Sim p3 (smul 3 p)) (r0 r1 : Int) (l0 l1 : List Tm) : (ofT (.nd 4 r0 l0 [.nd 2 r p [], .nd 4 r1 l1 [m, .nd 2 (compl r) p3 []]])).kd = 1 := by
 have key : ofT (.nd 4 r0 l0 [.nd 2 r p [], .nd 4 r1 l1 [m, .nd 2 (compl r) p3 []]]) = tmB true := by
  rcases atom_two r h with ⟨b, h1, h2⟩ | ⟨a, b, l, h0, _, h1, h2⟩
  ·cases b
   ·refine fold_o true r0 l0 [.nd 2 r p []] [] (.nd 4 r1 l1 [m, .nd 2 (compl r) p3 []]) ?_
    have := fold_o true r1 l1 [m] [] (.nd 2 (compl r) p3 []) (by rw [ofT_two, h2]; rfl)
    rw [show ofT (.nd 4 r1 l1 [m, .nd 2 (compl r) p3 []]) = tmB true from this]; rfl
   ·exact fold_o true r0 l0 [] [.nd 4 r1 l1 [m, .nd 2 (compl r) p3 []]] (.nd 2 r p []) (by rw [ofT_two, h1]; rfl)
  ·-- the inner Or
   have hin : (ofT (.nd 4 r1 l1 [m, .nd 2 (compl r) p3 []])).kd = 1 ∨ HasB true l b (ofT (.nd 4 r1 l1 [m, .nd 2 (compl r) p3 []])) ∨ (ofT (.nd 4 r1 l1 [m, .nd 2 (compl r) p3 []])).kd = 4 ∧ ∃ q ∈ (ofT (.nd 4 r1 l1 [m, .nd 2 (compl r) p3 []])).ks, HasB true l b q := by
    have ej : ofT (.nd 4 r1 l1 [m, .nd 2 (compl r) p3 []]) = finT true (stepL true ([m, .nd 2 (compl r) p3 []].map ofT) []) := ofT_join true r1 l1 _
    rw [ej]
    simp only [List.map_cons, List.map_nil]
    rw [ofT_two, h2]
    unfold stepL
    cases e1 : stepT true [] (ofT m) with
    | none => exact .inl rfl
    | some ks =>
     rw [Option.bind_some]
     unfold stepL
     rw [stepT_two true _ _ rfl]
     unfold inclL
     by_cases hk : (incl true (.nd 2 b l []) ks).2 = true
     ·rw [if_pos hk]
      obtain ⟨q, hq, hb⟩ := incl_has (l := l) (b := .nd 2 b l []) rfl rfl ks hk
      unfold inclL
      rw [Option.bind_some]
      unfold stepL
      generalize (incl true (.nd 2 b l []) ks).1 = R at *
      match R, hq with
      | [k], hq =>
       rw [List.mem_singleton] at hq
       subst hq
       exact .inr (.inl hb)
      | k :: k' :: ts, hq => exact .inr (.inr ⟨rfl, q, hq, hb⟩)
     ·rw [if_neg hk]; exact .inl rfl
   have ej : ofT (.nd 4 r0 l0 [.nd 2 r p [], .nd 4 r1 l1 [m, .nd 2 (compl r) p3 []]]) = finT true (stepL true ([.nd 2 r p [], .nd 4 r1 l1 [m, .nd 2 (compl r) p3 []]].map ofT) []) := ofT_join true r0 l0 _
   rw [ej]
   simp only [List.map_cons, List.map_nil]
   rw [ofT_two, h1]
   generalize ofT (.nd 4 r1 l1 [m, .nd 2 (compl r) p3 []]) = s at *
   obtain ⟨ks, e1, k1⟩ := first_hd true a b l h0
   unfold stepL
   rw [e1, Option.bind_some]
   unfold stepL
   cases e2 : stepT true ks s with
   | none => rfl
   | some ks2 =>
    obtain ⟨_, g1, g2⟩ := stepT_hd k1 e2
    rcases hin with hs | hs | ⟨hs, q, hq, hb⟩
    ·rw [stepT_o true ks s hs] at e2; cases e2
    ·exact absurd hs g1
    ·exact absurd hb (g2 hs q hq)
 rw [key]; rfl
end Go.Proofs.YtfbdckffjjladaaGreat
