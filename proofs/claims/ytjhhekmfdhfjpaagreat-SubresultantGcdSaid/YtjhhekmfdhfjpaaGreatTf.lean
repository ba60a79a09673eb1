/- Greatest common divisors by the sequence of remainders, plain. subresultant.GcdDegree answers the degree of a greatest common divisor. SubresultantGcd: the walk. The law SubresultantGcd returns true at every input, without a panic, and leaves its arguments as they were; no conditions. -/
import Derived.Test.YtjhhekmfdhfjpaaGreatTa
import Derived.Test.YtjhhekmfdhfjpaaGreatDk
import Derived.Test.YtjhhekmfdhfjpaaGreatMq
set_option linter.unusedVariables false
set_option linter.unusedSimpArgs false

namespace Go.Proofs.YtjhhekmfdhfjpaaGreat
open Go.RowKit

def MDv (J : Nat) (z f : List Tm) : Prop := ∃ c q, NN c ∧ Fre J c ∧ ¬ Sim c [] ∧ NN q ∧ Sim (pmul c f) (pmul q z)
def Bz (J : Nat) (f g r : List Tm) : Prop := ∃ c u v, NN c ∧ Fre J c ∧ ¬ Sim c [] ∧ NN u ∧ NN v ∧ Sim (pmul c r) (pmul u f ++ pmul v g)
theorem MDv.comb {J : Nat} {z x y r c p q : List Tm} (nz : NN z) (nx : NN x) (ny : NN y) (nr : NN r) (hx : MDv J z x) (hy : MDv J z y) (nc : NN c) (fc : Fre J c) (zc : ¬ Sim c []) (np : NN p) (nq : NN q) (h : Sim (pmul c r) (pmul p x ++ pmul q y)) : MDv J z r := by
 obtain ⟨a, qa, na, fa, za, nqa, ha⟩ := hx
 obtain ⟨b, qb, nb, fb, zb, nqb, hb⟩ := hy
 refine ⟨pmul (pmul a b) c, pmul (pmul b p) qa ++ pmul (pmul a q) qb, nn_pm (nn_pm na nb) nc, (fa.pmul fb na).pmul fc (nn_pm na nb), pmul_ne (nn_pm na nb) nc (pmul_ne na nb za zb) zc, (nn_pm (nn_pm nb np) nqa).append (nn_pm (nn_pm na nq) nqb), sim_ev (nn_pm (nn_pm (nn_pm na nb) nc) nr) (nn_pm ((nn_pm (nn_pm nb np) nqa).append (nn_pm (nn_pm na nq) nqb)) nz) fun e => ?_⟩
 have h1 := ev_sim e ha
 have h2 := ev_sim e hb
 have h3 := ev_sim e h
 rw [ev_pmul e na nx, ev_pmul e nqa nz] at h1
 rw [ev_pmul e nb ny, ev_pmul e nqb nz] at h2
 rw [ev_append, ev_pmul e nc nr, ev_pmul e np nx, ev_pmul e nq ny] at h3
 rw [ev_pmul e (nn_pm (nn_pm na nb) nc) nr, ev_pmul e (nn_pm na nb) nc, ev_pmul e na nb, ev_pmul e ((nn_pm (nn_pm nb np) nqa).append (nn_pm (nn_pm na nq) nqb)) nz, ev_append, ev_pmul e (nn_pm nb np) nqa, ev_pmul e (nn_pm na nq) nqb, ev_pmul e nb np, ev_pmul e na nq]
 generalize ev e a = A at *
 generalize ev e b = B at *
 generalize ev e c = C at *
 generalize ev e p = P at *
 generalize ev e q = Q at *
 generalize ev e x = X at *
 generalize ev e y = Y at *
 generalize ev e z = Z at *
 generalize ev e r = R at *
 generalize ev e qa = QA at *
 generalize ev e qb = QB at *
 have e1 : A * B * C * R = A * B * (C * R) := by ac_rfl
 have e2 : A * B * (P * X + Q * Y) = B * P * (A * X) + A * Q * (B * Y) := by grind
 rw [e1, h3, e2, h1, h2]
 grind
theorem Bz.comb {J : Nat} {f g x y r c p q : List Tm} (nf : NN f) (ng : NN g) (nx : NN x) (ny : NN y) (nr : NN r) (hx : Bz J f g x) (hy : Bz J f g y) (nc : NN c) (fc : Fre J c) (zc : ¬ Sim c []) (np : NN p) (nq : NN q) (h : Sim (pmul c r) (pmul p x ++ pmul q y)) : Bz J f g r := by
 obtain ⟨a, u, v, na, fa, za, nu, nv, ha⟩ := hx
 obtain ⟨b, u', v', nb, fb, zb, nu', nv', hb⟩ := hy
 have n1 := (nn_pm (nn_pm nb np) nu).append (nn_pm (nn_pm na nq) nu')
 have n2 := (nn_pm (nn_pm nb np) nv).append (nn_pm (nn_pm na nq) nv')
 refine ⟨pmul (pmul a b) c, pmul (pmul b p) u ++ pmul (pmul a q) u', pmul (pmul b p) v ++ pmul (pmul a q) v', nn_pm (nn_pm na nb) nc, (fa.pmul fb na).pmul fc (nn_pm na nb), pmul_ne (nn_pm na nb) nc (pmul_ne na nb za zb) zc, n1, n2, sim_ev (nn_pm (nn_pm (nn_pm na nb) nc) nr) ((nn_pm n1 nf).append (nn_pm n2 ng)) fun e => ?_⟩
 have h1 := ev_sim e ha
 have h2 := ev_sim e hb
 have h3 := ev_sim e h
 rw [ev_append, ev_pmul e na nx, ev_pmul e nu nf, ev_pmul e nv ng] at h1
 rw [ev_append, ev_pmul e nb ny, ev_pmul e nu' nf, ev_pmul e nv' ng] at h2
 rw [ev_append, ev_pmul e nc nr, ev_pmul e np nx, ev_pmul e nq ny] at h3
 rw [ev_pmul e (nn_pm (nn_pm na nb) nc) nr, ev_pmul e (nn_pm na nb) nc, ev_pmul e na nb, ev_append, ev_pmul e n1 nf, ev_pmul e n2 ng, ev_append, ev_append, ev_pmul e (nn_pm nb np) nu, ev_pmul e (nn_pm nb np) nv, ev_pmul e (nn_pm na nq) nu', ev_pmul e (nn_pm na nq) nv', ev_pmul e nb np, ev_pmul e na nq]
 generalize ev e a = A at *
 generalize ev e b = B at *
 generalize ev e c = C at *
 generalize ev e p = P at *
 generalize ev e q = Q at *
 generalize ev e x = X at *
 generalize ev e y = Y at *
 generalize ev e r = R at *
 generalize ev e u = U at *
 generalize ev e v = V at *
 generalize ev e u' = U' at *
 generalize ev e v' = V' at *
 generalize ev e f = F at *
 generalize ev e g = G at *
 have e1 : A * B * C * R = A * B * (C * R) := by ac_rfl
 have e2 : A * B * (P * X + Q * Y) = B * P * (A * X) + A * Q * (B * Y) := by grind
 rw [e1, h3, e2, h1, h2]
 grind
theorem one_mul_sim (l : List Tm) : Sim (pmul [((1 : Int), Mo.zero)] l) l := (Sim.pmul_comm _ _).trans (pmul_one l)
theorem MDv.refl (J : Nat) (z : List Tm) : MDv J z z := ⟨_, _, nn_one 1, fre_one J, nz_one, nn_one 1, Sim.refl _⟩
theorem MDv.zero {J : Nat} {z r : List Tm} (h : Sim r []) : MDv J z r := ⟨_, [], nn_one 1, fre_one J, nz_one, NN.nil, (one_mul_sim r).trans h⟩
theorem MDv.free {J : Nat} {z r : List Tm} (nz : NN z) (fz : Fre J z) (hz : ¬ Sim z []) (nr : NN r) : MDv J z r := ⟨z, r, nz, fz, hz, nr, Sim.pmul_comm _ _⟩
theorem dgr0_fre {J : Nat} {l : List Tm} (nl : NN l) (h : DgR J l 0) : Fre J l := fun m hm => by
 have h1 := h.1 m hm
 have hnn : m.nn = true := by
  cases hq : m.nn with
  | true => rfl
  | false => exact absurd (nl m hq) hm
 have := nn_get hnn J
 omega
theorem Bz.left {J : Nat} (f g : List Tm) : Bz J f g f := ⟨_, _, [], nn_one 1, fre_one J, nz_one, nn_one 1, NN.nil, by rw [show pmul [] g = [] from rfl, List.append_nil]; exact Sim.refl _⟩
theorem Bz.right {J : Nat} (f g : List Tm) : Bz J f g g := ⟨_, [], _, nn_one 1, fre_one J, nz_one, NN.nil, nn_one 1, Sim.refl _⟩
theorem rem_law {J n δ : Nat} {f g : List Tm} (h1 : 1 ≤ J) (h4 : J ≤ 4) (nf : NN f) (ng : NN g) (zf : ¬ Sim f []) (zg : ¬ Sim g []) (df : DgR J f (n + δ)) (dg : DgR J g n) : ∃ p q, NN p ∧ Fre J p ∧ ¬ Sim p [] ∧ NN q ∧ Sim (pmul p f) (pmul (negL q) g ++ pdRem J n (δ + 1) f (negL g)) ∧ Sim (pdRem J n (δ + 1) f (negL g)) (pmul p f ++ pmul q g) := by
 obtain ⟨B, hB⟩ := deg_exE f
 obtain ⟨C, hC⟩ := deg_exE g
 have dg' : DgR J (negL g) n := ⟨fun m hm => dg.1 m fun e => hm (by rw [negL_coef, e]; rfl), dg.2.imp id fun ⟨m, hm, e⟩ => ⟨m, fun e0 => hm (by rw [negL_coef] at e0; omega), e⟩⟩
 have H : PdH J n (δ + 1) B C _ _ f (negL g) := ⟨h1, h4, nf, negL_nn ng, hB, negL_deg hC, Nat.le_refl _, Nat.le_refl _, dg', .inr ⟨zf, n + δ, df, by omega⟩⟩
 have nc := ck_nn h1 h4 (e := (n : Int)) (negL_nn ng)
 have zc : ¬ Sim (ck J (n : Int) (negL g)) [] := ld_nz h1 h4 (negL_nn ng) dg' fun h => zg fun m => by
  have := h m
  rw [negL_coef] at this
  show coefAt g m = 0
  have e : coefAt ([] : List Tm) m = 0 := rfl
  omega
 have nQ := H.quo_nn
 have nR := H.rem_nn
 have hl := H.law
 refine ⟨ppow (ck J (n : Int) (negL g)) (δ + 1), pdQuo J n (δ + 1) f (negL g), nn_pp nc _, fre_pp nc (fre_ck h1 h4 _ _) _, nz_pp nc zc _, nQ, sim_ev (nn_pm (nn_pp nc _) nf) ((nn_pm (negL_nn nQ) ng).append nR) fun e => ?_, sim_ev nR ((nn_pm (nn_pp nc _) nf).append (nn_pm nQ ng)) fun e => ?_⟩
 ·have h := ev_sim e hl
  rw [ev_append, ev_pmul e nQ (negL_nn ng), ev_neg e ng] at h
  rw [h, ev_append, ev_pmul e (negL_nn nQ) ng, ev_neg e nQ]
  generalize ev e (pdQuo _ _ _ _ _) = q
  grind
 ·have h := ev_sim e hl
  rw [ev_append, ev_pmul e nQ (negL_nn ng), ev_neg e ng] at h
  rw [ev_append, h, ev_pmul e nQ ng]
  generalize ev e (pdQuo _ _ _ _ _) = q
  grind
structure GcdP (J : Nat) (f g z : List Tm) : Prop where
 nz : NN z
 zz : ¬ Sim z []
 df : MDv J z f
 dg : MDv J z g
 bz : Bz J f g z
section
variable {J : Nat} (h1 : 1 ≤ J) (h4 : J ≤ 4) {f g : List Tm} (nf : NN f) (ng : NN g)
include h1 h4 nf ng
theorem run_gcd {m n : Nat} : ∀ (fuel d : Nat) (a s : List Tm), d ≤ fuel → SSt J m n f g d a s → Bz J f g a → Bz J f g (SJ J (d - 1) m n f g) →
  ∃ z k, DgR J z k ∧ NN z ∧ ¬ Sim z [] ∧ Bz J f g z ∧ MDv J z a ∧ MDv J z (SJ J (d - 1) m n f g) ∧ k ≤ d ∧ (∀ j, j < d → j < k → Sim (SJ J j m n f g) []) ∧ (k < d → ¬ Sim (ck J (k : Int) (SJ J k m n f g)) [])
 | 0, d, a, s, hd, S, _, _ => absurd S.pos (by omega)
 | fuel + 1, d, a, s, hd, S, ba, bb => by
  have nB := nn_SJ h1 h4 nf ng (d - 1) m n
  by_cases hz : Sim (SJ J (d - 1) m n f g) []
  ·exact ⟨a, d, S.da, S.na, S.za, ba, MDv.refl J a, MDv.zero hz, Nat.le_refl _, fun j hj _ => S.fin h1 h4 nf ng hz j hj, fun h => absurd h (Nat.lt_irrefl _)⟩
  ·obtain ⟨e, hb⟩ := dgr_exi (k := J) nB
   have hed := S.lt h1 h4 nf ng hb hz
   have nE := nn_SJ h1 h4 nf ng e m n
   have nlb : NN (ck J (e : Int) (SJ J (d - 1) m n f g)) := ck_nn h1 h4 nB
   have zlb := ld_nz h1 h4 nB hb hz
   have zt := S.subNz h1 h4 nf ng hb hz
   have hsub := S.sub h1 h4 nf ng hb hz
   have be : Bz J f g (SJ J e m n f g) := Bz.comb nf ng nB nB nE bb bb (nn_pp S.ns _) (fre_pp S.ns S.fs _) (nz_pp S.ns S.zs _) (nn_pp nlb (d - e - 1)) NN.nil (hsub.trans (by rw [show pmul [] (SJ J (d - 1) m n f g) = [] from rfl, List.append_nil]; exact Sim.refl _))
   have back : ∀ z, NN z → MDv J z (SJ J e m n f g) → MDv J z (SJ J (d - 1) m n f g) := fun z nz h => MDv.comb nz nE nE nB h h (nn_pp nlb _) (fre_pp nlb (fre_ck h1 h4 _ _) _) (nz_pp nlb zlb _) (nn_pp S.ns (d - e - 1)) NN.nil (hsub.symm.trans (by rw [show pmul [] (SJ J e m n f g) = [] from rfl, List.append_nil]; exact Sim.refl _))
   have dE : DgR J (SJ J e m n f g) e := dgr_ckN h1 h4 nE (fun i hi => S.subDeg h1 h4 nf ng hb hz i hi) (.inr zt)
   have zE : ¬ Sim (SJ J e m n f g) [] := fun h => zt (ck_sim (r := []) h)
   by_cases he0 : e = 0
   ·subst he0
    have fz := dgr0_fre nE dE
    exact ⟨_, 0, dE, nE, zE, be, MDv.free nE fz zE S.na, MDv.free nE fz zE nB, by omega, fun j _ hj => by omega, fun _ => zt⟩
   ·have he1 : 1 ≤ e := by omega
    have S' := S.next h1 h4 nf ng hb hz he1
    have nl : NN (ck J (d : Int) a) := ck_nn h1 h4 S.na
    have zl := ld_nz h1 h4 S.na S.da S.za
    have n1 := nn_SJ h1 h4 nf ng (e - 1) m n
    obtain ⟨p, q, np, fp, zp, nq, hl1, hl2⟩ := rem_law (δ := d - e) h1 h4 S.na nB S.za hz (by rw [show e + (d - e) = d by omega]; exact S.da) hb
    have hR := S.rem h1 h4 nf ng hb hz he1
    have nk := nn_pm (nn_pp S.ns (d - e)) nl
    have fk : Fre J (pmul (ppow s (d - e)) (ck J (d : Int) a)) := (fre_pp S.ns S.fs _).pmul (fre_ck h1 h4 _ _) (nn_pp S.ns _)
    have zk : ¬ Sim (pmul (ppow s (d - e)) (ck J (d : Int) a)) [] := pmul_ne (nn_pp S.ns _) nl (nz_pp S.ns S.zs _) zl
    have b1 : Bz J f g (SJ J (e - 1) m n f g) := Bz.comb nf ng S.na nB n1 ba bb nk fk zk np nq (hR.symm.trans hl2)
    obtain ⟨z, k, dz, nz, zz, bz, m1, m2, hke, hlow, hne⟩ := run_gcd fuel e _ _ (by omega) S' be b1
    have mb := back z nz m1
    refine ⟨z, k, dz, nz, zz, bz, MDv.comb nz nB n1 S.na mb m2 np fp zp (negL_nn nq) nk (hl1.trans ((Sim.refl _).append hR)), mb, by omega, fun j hj hjk => hlow j (by omega) hjk, fun hkd => ?_⟩
    by_cases h : k < e
    ·exact hne h
    ·obtain rfl : k = e := by omega
     exact zt
theorem gcd_sub {m n : Nat} (hnm : n ≤ m) (zf : ¬ Sim f []) (zg : ¬ Sim g []) (df : DgR J f m) (dg : DgR J g n) : ∃ z k, GcdP J f g z ∧ DgR J z k ∧ k ≤ n ∧ (∀ j, j < n → j < k → Sim (SJ J j m n f g) []) ∧ (k < n → ¬ Sim (ck J (k : Int) (SJ J k m n f g)) []) := by
 by_cases hn : n = 0
 ·subst hn
  have fz := dgr0_fre ng dg
  exact ⟨g, 0, ⟨ng, zg, MDv.free ng fz zg nf, MDv.refl J g, Bz.right f g⟩, dg, by omega, fun j hj => by omega, fun h => by omega⟩
 ·obtain ⟨δ, rfl⟩ : ∃ δ, m = n + δ := ⟨m - n, by omega⟩
  obtain ⟨hs, S⟩ := sst_start h1 h4 nf ng (by omega) zf zg df dg
  obtain ⟨p, q, np, fp, zp, nq, hl1, hl2⟩ := rem_law h1 h4 nf ng zf zg df dg
  have n1 := nn_SJ h1 h4 nf ng (n - 1) (n + δ) n
  have b1 : Bz J f g (SJ J (n - 1) (n + δ) n f g) := Bz.comb nf ng nf ng n1 (Bz.left f g) (Bz.right f g) (nn_one 1) (fre_one J) nz_one np nq ((one_mul_sim _).trans (hs.trans hl2))
  obtain ⟨z, k, dz, nz, zz, bz, m1, m2, hke, hlow, hne⟩ := run_gcd h1 h4 nf ng n n _ _ (Nat.le_refl _) S (Bz.right f g) b1
  exact ⟨z, k, ⟨nz, zz, MDv.comb nz ng n1 nf m1 m2 np fp zp (negL_nn nq) (nn_one 1) (hl1.trans ((Sim.refl _).append (hs.symm.trans (one_mul_sim _).symm))), m1, bz⟩, dz, hke, hlow, hne⟩
end
theorem GcdP.swap {J : Nat} {f g z : List Tm} (h : GcdP J f g z) : GcdP J g f z := by
 obtain ⟨c, u, v, nc, fc, zc, nu, nv, hs⟩ := h.bz
 exact ⟨h.nz, h.zz, h.dg, h.df, c, v, u, nc, fc, zc, nv, nu, hs.trans fun m => by rw [coefAt_append, coefAt_append, Int.add_comm]⟩
theorem GcdP.le {J : Nat} (h1 : 1 ≤ J) (h4 : J ≤ 4) {f g z z' : List Tm} (nf : NN f) (ng : NN g) (h : GcdP J f g z) (h' : GcdP J f g z') {a b : Nat} (ha : DgR J z a) (hb : DgR J z' b) : a ≤ b := by
 obtain ⟨c, u, v, nc, fc, zc, nu, nv, hs⟩ := h'.bz
 have hm : MDv J z z' := MDv.comb h.nz nf ng h'.nz h.df h.dg nc fc zc nu nv hs
 obtain ⟨k, q, nk, fk, zk, nq, hq⟩ := hm
 have zq : ¬ Sim q [] := fun h0 => pmul_ne nk h'.nz zk h'.zz (hq.trans (h0.pmul_left z))
 obtain ⟨e, he⟩ := dgr_exi (k := J) nq
 have d1 := dgr_prod h1 h4 nq h.nz zq h.zz he ha
 have dk : DgR J k 0 := ⟨fun m hm => by rw [fk m hm]; exact Int.le_refl _, .inl rfl⟩
 have d2 := dgr_prod h1 h4 nk h'.nz zk h'.zz dk hb
 have d3 : DgR J (pmul k z') (e + a) := ⟨fun m hm => d1.1 m (by rw [← hq m]; exact hm), d1.2.imp id fun ⟨m, hm, e⟩ => ⟨m, by rw [hq m]; exact hm, e⟩⟩
 have := dgr_uniq (nn_pm nk h'.nz) (pmul_ne nk h'.nz zk h'.zz) d2 d3
 omega
theorem GcdP.uniq {J : Nat} (h1 : 1 ≤ J) (h4 : J ≤ 4) {f g z z' : List Tm} (nf : NN f) (ng : NN g) (h : GcdP J f g z) (h' : GcdP J f g z') {a b : Nat} (ha : DgR J z a) (hb : DgR J z' b) : a = b :=
 Nat.le_antisymm (h.le h1 h4 nf ng h' ha hb) (h'.le h1 h4 nf ng h hb ha)
theorem MDv.mul {J : Nat} {z f h : List Tm} (nz : NN z) (nf : NN f) (nh : NN h) (k : MDv J z f) : MDv J (pmul z h) (pmul f h) := by
 obtain ⟨c, q, nc, fc, zc, nq, hs⟩ := k
 exact ⟨c, q, nc, fc, zc, nq, (Sim.pmul_assoc _ _ _).symm.trans ((hs.pmul_left h).trans (Sim.pmul_assoc _ _ _))⟩
theorem GcdP.mul {J : Nat} {f g z h : List Tm} (nf : NN f) (ng : NN g) (nh : NN h) (zh : ¬ Sim h []) (k : GcdP J f g z) : GcdP J (pmul f h) (pmul g h) (pmul z h) := by
 obtain ⟨c, u, v, nc, fc, zc, nu, nv, hs⟩ := k.bz
 refine ⟨nn_pm k.nz nh, pmul_ne k.nz nh k.zz zh, k.df.mul k.nz nf nh, k.dg.mul k.nz ng nh, c, u, v, nc, fc, zc, nu, nv, ?_⟩
 refine (Sim.pmul_assoc _ _ _).symm.trans ((hs.pmul_left h).trans ?_)
 rw [pmul_append_left]
 exact (Sim.pmul_assoc _ _ _).append (Sim.pmul_assoc _ _ _)


def RetGk (w : World) (J N : Nat) (f g : List Tm) (F : Nat → List Tm) (e : Ending) (w' : World) : Prop := ∃ (k : Nat) (z : List Tm), e = .returned (.tuple #[.int .i64 (k : Int), .int .i64 0]) ∧ GcdP J f g z ∧ DgR J z k ∧ k ≤ N ∧ (∀ j, j < N → j < k → Sim (F j) []) ∧ Ext w w'
theorem sj_zero {J : Nat} (h1 : 1 ≤ J) (h4 : J ≤ 4) {f g : List Tm} (nf : NN f) (ng : NN g) {j m n : Nat} (h : Sim (SJ J j n m g f) []) : Sim (SJ J j m n f g) [] := by
 have hx := sj_exch h1 h4 ng nf j n m
 rcases Nat.mod_two_eq_zero_or_one ((n - j) * (m - j)) with h2 | h2
 ·exact (hx.1 h2).trans h
 ·exact (hx.2 h2).trans fun q => by
   have := h q
   rw [negL_coef]
   have e : coefAt ([] : List Tm) q = 0 := rfl
   omega
theorem Gn.gcd {J m n β : Nat} {f g : List Tm} (H : Gn J m n β f g) (M : Nat → Prop) (x y : PE) (w : World) (hM : Mb M w) (hx : CRx M w 4 x f) (hy : CRx M w 4 y g) : Calls Tryz.prog 20 #[.agg (peA x), .agg (peA y), .int .i64 (J : Int)] w (RetGk w J (min m n) f g fun j => SJ J j m n f g) := by
 have nf := H.sf.n
 have ng := H.sg.n
 have key : ∃ z k, GcdP J f g z ∧ DgR J z k ∧ k ≤ min m n ∧ (∀ j, j < min m n → j < k → Sim (SJ J j m n f g) []) ∧ (k < min m n → ¬ Sim (ck J (k : Int) (SJ J k m n f g)) []) := by
  rcases Nat.le_total n m with h | h
  ·rw [Nat.min_eq_right h]
   exact gcd_sub H.h1 H.h4 nf ng h H.zf H.zg H.df H.dg
  ·rw [Nat.min_eq_left h]
   obtain ⟨z, k, hg, hd, hk, hl, hn⟩ := gcd_sub H.h1 H.h4 ng nf h H.zg H.zf H.dg H.df
   refine ⟨z, k, hg.swap, hd, hk, fun j h5 h6 => sj_zero H.h1 H.h4 nf ng (hl j h5 h6), fun h5 h6 => hn h5 ?_⟩
   have hx := sj_exch H.h1 H.h4 nf ng k m n
   rcases Nat.mod_two_eq_zero_or_one ((m - k) * (n - k)) with h2 | h2
   ·exact (ck_sim (hx.1 h2)).trans h6
   ·refine (ck_sim (hx.2 h2)).trans ((ck_negL H.h1 H.h4 _ _).trans fun q => ?_)
    have := h6 q
    rw [negL_coef]
    have e : coefAt ([] : List Tm) q = 0 := rfl
    omega
 obtain ⟨z, k, hg, hd, hk, hl, hn⟩ := key
 have hm6 := H.m6
 refine (sr_Gcd M x y (J : Int) 0 (min m n) m n (fun j => ck J (j : Int) (SJ J j m n f g)) w hM (by omega) (fun _ => rfl) (fun wk he => H.psc M x y wk (hM.ext he) (hx.ext he) (hy.ext he)) (fun _ wk he => H.degf M x wk (hM.ext he) (hx.ext he)) fun _ wk he => H.swap.degf M y wk (hM.ext he) (hy.ext he)).mono ?_
 rintro e w' ⟨k', rfl, _, h0, he⟩
 have := (h0 rfl).uniq ⟨hk, fun j hj => ck_sim (r := []) (hl j (by omega) hj), hn⟩
 subst this
 exact ⟨k', z, rfl, hg, hd, hk, hl, he⟩
theorem ok44 : ∀ m, m ≤ 4 → ∀ n, n ≤ m → okN m n 4 = true := by decide +kernel
def SB3 (g : Nat) (x y z : PE) (w : World) : Prop := P4 w g x ∧ P4 w (g + 1) y ∧ P4 w (g + 2) z
theorem SB3.ext {g : Nat} {x y z : PE} {w w' : World} (h : SB3 g x y z w) (he : Ext w w') : SB3 g x y z w' := ⟨h.1.ext he, h.2.1.ext he, h.2.2.ext he⟩
theorem new_px3S (w : World) (x y z : PE) : SB3 w.heap.size x y z (((w.alloc (.cells (peA x) 32)).alloc (.cells (peA y) 32)).alloc (.cells (peA z) 32)) := by
 have b1 := Blk.of_arr (w.alloc (.cells (peA x) 32)) (peA y) 32 4 rfl
 have b2 := Blk.of_arr ((w.alloc (.cells (peA x) 32)).alloc (.cells (peA y) 32)) (peA z) 32 4 rfl
 simp only [World.size_alloc] at b1 b2
 exact ⟨(((Blk.of_arr w (peA x) 32 4 rfl).alloc _).alloc _).p4, (b1.alloc _).p4, b2.p4⟩
structure GcC (W : World) (x y z : PE) (f g h : List Tm) (k t n' N : Nat) (F : Nat → List Tm) : Prop where
 kt : k + t = n'
 nN : n' ≤ N
 b6 : N ≤ 8
 c1 : ∀ wk, Ext W wk → Calls Tryz.prog 20 #[.agg (peA x), .agg (peA y), .int .i64 1] wk fun e w' => e = .returned (.tuple #[.int .i64 (k : Int), .int .i64 0]) ∧ Ext wk w'
 m1 : ∀ wk, Ext W wk → Calls Tryz.prog 17 #[.agg (peA x), .agg (peA z)] wk (RetX M0 wk 4 (pmul f h))
 m2 : ∀ wk, Ext W wk → Calls Tryz.prog 17 #[.agg (peA y), .agg (peA z)] wk (RetX M0 wk 4 (pmul g h))
 c2 : ∀ wk u v, CRx M0 wk 4 u (pmul f h) → CRx M0 wk 4 v (pmul g h) → Calls Tryz.prog 20 #[.agg (peA u), .agg (peA v), .int .i64 1] wk fun e w' => e = .returned (.tuple #[.int .i64 (n' : Int), .int .i64 0]) ∧ Ext wk w'
 c3 : ∀ wk u v, CRx M0 wk 4 u (pmul f h) → CRx M0 wk 4 v (pmul g h) → Calls Tryz.prog 11 #[.agg (peA u), .agg (peA v), .int .i64 1] wk (RetLi M0 wk N F 0)
 z0 : ∀ j, j < n' → Sim (F j) []
 dg : ∀ wk, Ext W wk → Calls Tryz.prog 16 #[.agg (peA z), .int .i64 1] wk fun e w' => e = .returned (.int .i64 (t : Int)) ∧ Ext wk w'
theorem gcC_of {f g h : List Tm} (hf : SmD 2 f) (hg : SmD 2 g) (hh : SmD 2 h) (zf : ¬ Sim f []) (zg : ¬ Sim g []) (zh : ¬ Sim h []) (x y z : PE) (W : World) (hx : CRx M0 W 4 x f) (hy : CRx M0 W 4 y g) (hz : CRx M0 W 4 z h) : ∃ k t n' N F, GcC W x y z f g h k t n' N F := by
 obtain ⟨m, hm⟩ := dgr_exi (k := 1) hf.nn
 obtain ⟨n, hn⟩ := dgr_exi (k := 1) hg.nn
 obtain ⟨t, ht⟩ := dgr_exi (k := 1) hh.nn
 have hm2 : m ≤ 2 := dg_le hm hf.deg
 have hn2 : n ≤ 2 := dg_le hn hg.deg
 have ht2 : t ≤ 2 := dg_le ht hh.deg
 have sf : Sz 4 1000 f := ⟨hf.nn, hf.deg.mono (by omega), Nat.le_trans hf.dl (by decide)⟩
 have sg : Sz 4 1000 g := ⟨hg.nn, hg.deg.mono (by omega), Nat.le_trans hg.dl (by decide)⟩
 have s2 : ∀ l, SmD 2 l → Sz 4 1000 (pmul l h) := fun l hl => ⟨nn_pm hl.nn hh.nn, Deg.pmul hl.deg hh.deg hl.nn, by
  rw [nrm_pmul]
  exact Nat.le_trans (dlen_mul _ _) (Nat.le_trans (Nat.add_le_add hl.dl hh.dl) (by decide))⟩
 have H : Gn 1 m n 4 f g := ⟨by decide, by decide, sf, sg, zf, zg, hm, hn, by omega, by omega, fun h => ok44 m (by omega) n h, fun h => ok44 n (by omega) m h⟩
 have H' : Gn 1 (m + t) (n + t) 4 (pmul f h) (pmul g h) := ⟨by decide, by decide, s2 f hf, s2 g hg, pmul_ne hf.nn hh.nn zf zh, pmul_ne hg.nn hh.nn zg zh, dgr_prod (by decide) (by decide) hf.nn hh.nn zf zh hm ht, dgr_prod (by decide) (by decide) hg.nn hh.nn zg zh hn ht, by omega, by omega, fun h => ok44 _ (by omega) _ h, fun h => ok44 _ (by omega) _ h⟩
 have key : ∀ {J m n : Nat} {f g : List Tm}, Gn J m n 4 f g → ∃ z k, GcdP J f g z ∧ DgR J z k ∧ k ≤ min m n ∧ (∀ j, j < min m n → j < k → Sim (SJ J j m n f g) []) := fun {J m n f g} H => by
  rcases Nat.le_total n m with h | h
  ·rw [Nat.min_eq_right h]
   obtain ⟨z, k, hg, hd, hk, hl, _⟩ := gcd_sub H.h1 H.h4 H.sf.n H.sg.n h H.zf H.zg H.df H.dg
   exact ⟨z, k, hg, hd, hk, hl⟩
  ·rw [Nat.min_eq_left h]
   obtain ⟨z, k, hg, hd, hk, hl, hn⟩ := gcd_sub H.h1 H.h4 H.sg.n H.sf.n h H.zg H.zf H.dg H.df
   exact ⟨z, k, hg.swap, hd, hk, fun j h5 h6 => sj_zero H.h1 H.h4 H.sf.n H.sg.n (hl j h5 h6)⟩
 obtain ⟨z1, k, g1, d1, k1, _⟩ := key H
 obtain ⟨z2, n', g2, d2, k2, l2⟩ := key H'
 have hkt : k + t = n' := (g1.mul hf.nn hg.nn hh.nn zh).uniq (by decide) (by decide) (nn_pm hf.nn hh.nn) (nn_pm hg.nn hh.nn) g2 (dgr_prod (by decide) (by decide) g1.nz hh.nn g1.zz zh d1 ht) d2
 have hmul : ∀ l u, SmD 2 l → CRx M0 W 4 u l → ∀ wk, Ext W wk → Calls Tryz.prog 17 #[.agg (peA u), .agg (peA z)] wk (RetX M0 wk 4 (pmul l h)) := fun l u hl hu wk he => rp_Mul M0 u z l h 2 2 wk (mb0 _) (hu.ext he).pi (hz.ext he).pi (Nat.le_trans (Nat.add_le_add hl.dl hh.dl) (by decide)) hl.deg hh.deg (by decide)
 refine ⟨k, t, n', min (m + t) (n + t), fun j => SJ 1 j (m + t) (n + t) (pmul f h) (pmul g h), hkt, k2, by omega, fun wk he => (H.gcd M0 x y wk (mb0 _) (hx.ext he) (hy.ext he)).mono ?_, hmul f x hf hx, hmul g y hg hy, fun wk u v hu hv => (H'.gcd M0 u v wk (mb0 _) hu hv).mono ?_, fun wk u v hu hv => H'.chain M0 u v wk (mb0 _) hu hv, fun j hj => l2 j (by omega) hj, fun wk he => mv_DegreeV M0 z h 1 (t : Int) wk (by decide) (by decide) hh.nn (.inr ⟨zh, t, ht, rfl⟩) (mb0 _) (hz.ext he).pi⟩
 ·rintro e w' ⟨k', z', rfl, hg', hd', _, _, he'⟩
  rw [g1.uniq (by decide) (by decide) hf.nn hg.nn hg' d1 hd']
  exact ⟨rfl, he'⟩
 ·rintro e w' ⟨k', z', rfl, hg', hd', _, _, he'⟩
  rw [g2.uniq (by decide) (by decide) (nn_pm hf.nn hh.nn) (nn_pm hg.nn hh.nn) hg' d2 hd']
  exact ⟨rfl, he'⟩


set_option maxRecDepth 100000 in
set_option maxHeartbeats 32000000 in
theorem law_gcd25 (a1 a2 a3 : Option Addr) (n1 p1 n2 p2 n3 p3 : Nat) (X1 X2 X3 : Nat → TE) (w : World) (h1 : PRaw w a1 n1 p1 X1) (h2 : PRaw w a2 n2 p2 X2) (h3 : PRaw w a3 n3 p3 X3) :
  Calls Tryz.prog 6 #[.slice a1 n1 p1, .slice a2 n2 p2, .slice a3 n3 p3] w fun e w' => e = .returned (.bool true) ∧ Ext w w' := by
 have HR1 := Lib.hid h1
 have HR2 := Lib.hid h2
 have HR3 := Lib.hid h3
 clear h1 h2 h3
 go_enter Tryz.func6, Tryz.ntmps6
 go_wp2_with (fail)
 refine (law_fitJ _).mono ?_
 rintro e w1 ⟨rfl, he1⟩
 have HE1 := Lib.hid (he1)
 have CF1 := Lib.hid (law_few24 a1 n1 p1 X1 4 2 w1 (HR1.out.1.ext HE1.out) HR1.out.2.1)
 have CF2 := Lib.hid (law_few24 a2 n2 p2 X2 4 2 w1 (HR2.out.1.ext HE1.out) HR2.out.2.1)
 have CF3 := Lib.hid (law_few24 a3 n3 p3 X3 3 2 w1 (HR3.out.1.ext HE1.out) HR3.out.2.1)
 rw [show ((4 : Nat) : Int) = 4 from rfl, show ((2 : Nat) : Int) = 2 from rfl] at CF1 CF2
 rw [show ((3 : Nat) : Int) = 3 from rfl, show ((2 : Nat) : Int) = 2 from rfl] at CF3
 clear he1
 go_wp2_with (fail)
 refine CF1.out.mono ?_
 rintro e w2 ⟨b, rfl, hb1, rfl⟩
 cases b with
 | false =>
  clear hb1 CF1 CF2 CF3
  go_wp2
  go_ret
  exact ⟨rfl, HE1.out⟩
 | true =>
 have HF1 := Lib.hid (hb1.1 rfl)
 clear hb1 CF1
 go_wp2_with (fail)
 refine CF2.out.mono ?_
 rintro e w2 ⟨b, rfl, hb2, rfl⟩
 cases b with
 | false =>
  clear hb2 CF2 CF3
  go_wp2
  go_ret
  exact ⟨rfl, HE1.out⟩
 | true =>
 have HF2 := Lib.hid (hb2.1 rfl)
 clear hb2 CF2
 go_wp2_with (fail)
 refine CF3.out.mono ?_
 rintro e w2 ⟨b, rfl, hb3, rfl⟩
 cases b with
 | false =>
  clear hb3 CF3
  go_wp2
  go_ret
  exact ⟨rfl, HE1.out⟩
 | true =>
 have HF3 := Lib.hid (hb3.1 rfl)
 clear hb3 CF3
 obtain ⟨l1, hl1, HS1, hd1, hx1⟩ := HR1.out.smD (B := 2) HF1.out (by omega) (by omega)
 obtain ⟨l2, hl2, HS2, hd2, hx2⟩ := HR2.out.smD (B := 2) HF2.out (by omega) (by omega)
 obtain ⟨l3, hl3, HS3, hd3, hx3⟩ := HR3.out.smD (B := 2) HF3.out (by omega) (by omega)
 have hlD1 := hl1.ext HE1.out
 have hlD2 := hl2.ext HE1.out
 have hlD3 := hl3.ext HE1.out
 have HS1 := Lib.hid HS1
 have HS2 := Lib.hid HS2
 have HS3 := Lib.hid HS3
 have CO1 : Hid (Calls Tryz.prog 10 #[.slice a1 n1 p1] w1 (RetX M0 w1 4 (norm l1))) := rp_Of M0 _ l1 w1 (mb0 _) hlD1 hd1 hx1
 have CO2 : Hid (∀ W, Ext w1 W → Calls Tryz.prog 10 #[.slice a2 n2 p2] W (RetX M0 W 4 (norm l2))) := fun W h => rp_Of M0 _ l2 W (mb0 _) (hlD2.ext h) hd2 hx2
 have CO3 : Hid (∀ W, Ext w1 W → Calls Tryz.prog 10 #[.slice a3 n3 p3] W (RetX M0 W 4 (norm l3))) := fun W h => rp_Of M0 _ l3 W (mb0 _) (hlD3.ext h) hd3 hx3
 clear hl1 hd1 hx1 hl2 hd2 hx2 HF1 HF2 HR1 HR2 hlD1 hlD2 hl3 hd3 hx3 HF3 HR3 hlD3
 generalize norm l1 = f at *
 generalize norm l2 = g at *
 generalize norm l3 = h at *
 go_wp2_with (fail)
 refine CO1.out.mono ?_
 rintro e w2 ⟨x, rfl, hx, e2⟩
 have HX2 := Lib.hid hx
 have HE2 := Lib.hid e2
 clear hx e2 CO1
 go_wp2_with (fail)
 refine (CO2.out w2 HE2.out).mono ?_
 rintro e w3 ⟨y, rfl, hy, e3⟩
 have HX3 := Lib.hid (HX2.out.ext e3)
 have HY3 := Lib.hid hy
 have HE3 := Lib.hid (HE2.out.trans e3)
 clear HX2 hy e3 CO2 HE2
 go_wp2_with (fail)
 refine (CO3.out w3 HE3.out).mono ?_
 rintro e w4 ⟨z, rfl, hz, e4⟩
 have HX4 := Lib.hid (HX3.out.ext e4)
 have HY4 := Lib.hid (HY3.out.ext e4)
 have HZ4 := Lib.hid hz
 have HE4 := Lib.hid (HE1.out.trans (HE3.out.trans e4))
 clear HX3 HY3 hz e4 CO3 HE3 HE1
 go_upto_region 7 with (fail)
 obtain ⟨W, hW⟩ : ∃ W, W = ((w4.alloc (.cells #[.int .i64 x.lv, .bool x.b, .slice x.a x.n x.p, .slice x.ka x.kn x.kp] 32)).alloc (.cells #[.int .i64 y.lv, .bool y.b, .slice y.a y.n y.p, .slice y.ka y.kn y.kp] 32)).alloc (.cells #[.int .i64 z.lv, .bool z.b, .slice z.a z.n z.p, .slice z.ka z.kn z.kp] 32) := ⟨_, rfl⟩
 have hEW : Ext w4 W := by rw [hW]; exact (((Ext.refl w4).alloc _).alloc _).alloc _
 obtain ⟨g0, hg0⟩ : ∃ g0, g0 = w4.heap.size := ⟨_, rfl⟩
 have HSB : Hid (SB3 g0 x y z W) := by rw [hW, hg0]; exact new_px3S w4 x y z
 have HX := Lib.hid (HX4.out.ext hEW)
 have HY := Lib.hid (HY4.out.ext hEW)
 have HZ := Lib.hid (HZ4.out.ext hEW)
 have HE := Lib.hid (HE4.out.trans hEW)
 rw [← hW, ← hg0]
 clear hW hg0 hEW HX4 HY4 HZ4 HE4
 have CZ1 : Hid (∀ wk, Ext W wk → Calls Tryz.prog 15 #[.agg (peA x)] wk fun e w' => ∃ b : Bool, e = .returned (.bool b) ∧ (b = true ↔ Sim f []) ∧ Ext wk w') := fun wk he => rp_IsZero M0 x f wk (mb0 _) (HX.out.ext he).pi
 have CZ2 : Hid (∀ wk, Ext W wk → Calls Tryz.prog 15 #[.agg (peA y)] wk fun e w' => ∃ b : Bool, e = .returned (.bool b) ∧ (b = true ↔ Sim g []) ∧ Ext wk w') := fun wk he => rp_IsZero M0 y g wk (mb0 _) (HY.out.ext he).pi
 have CZ3 : Hid (∀ wk, Ext W wk → Calls Tryz.prog 15 #[.agg (peA z)] wk fun e w' => ∃ b : Bool, e = .returned (.bool b) ∧ (b = true ↔ Sim h []) ∧ Ext wk w') := fun wk he => rp_IsZero M0 z h wk (mb0 _) (HZ.out.ext he).pi
 obtain ⟨⟨x0, x1, x2, x3⟩, ⟨y0, y1, y2, y3⟩, z0, z1, z2, z3⟩ := HSB.out
 go_wp2_with (fail)
 refine (CZ1.out W (Ext.refl _)).mono ?_
 rintro e w6 ⟨b, rfl, hb, e6⟩
 have HE6 := Lib.hid e6
 clear x0 x1 x2 x3 y0 y1 y2 y3 z0 z1 z2 z3 e6 CZ1
 cases b with
 | true =>
  clear hb
  go_wp2
  go_ret
  exact ⟨rfl, HE.out.trans HE6.out⟩
 | false =>
 have HN1 : Hid (¬ Sim f []) := fun hh => by have := hb.2 hh; cases this
 clear hb
 obtain ⟨⟨x0, x1, x2, x3⟩, ⟨y0, y1, y2, y3⟩, z0, z1, z2, z3⟩ := HSB.out.ext HE6.out
 go_wp2_with (fail)
 refine (CZ2.out w6 HE6.out).mono ?_
 rintro e w7 ⟨b, rfl, hb, e7⟩
 have HE7 := Lib.hid (HE6.out.trans e7)
 clear x0 x1 x2 x3 y0 y1 y2 y3 z0 z1 z2 z3 e7 CZ2 HE6
 cases b with
 | true =>
  clear hb
  go_wp2
  go_ret
  exact ⟨rfl, HE.out.trans HE7.out⟩
 | false =>
 have HN2 : Hid (¬ Sim g []) := fun hh => by have := hb.2 hh; cases this
 clear hb
 obtain ⟨⟨x0, x1, x2, x3⟩, ⟨y0, y1, y2, y3⟩, z0, z1, z2, z3⟩ := HSB.out.ext HE7.out
 go_wp2_with (fail)
 refine (CZ3.out w7 HE7.out).mono ?_
 rintro e w8 ⟨b, rfl, hb, e8⟩
 have HE8 := Lib.hid (HE7.out.trans e8)
 clear x0 x1 x2 x3 y0 y1 y2 y3 z0 z1 z2 z3 e8 CZ3 HE7
 cases b with
 | true =>
  clear hb
  go_wp2
  go_ret
  exact ⟨rfl, HE.out.trans HE8.out⟩
 | false =>
 have HN3 : Hid (¬ Sim h []) := fun hh => by have := hb.2 hh; cases this
 clear hb
 obtain ⟨k, t, n', N, F, HG⟩ := gcC_of HS1.out HS2.out HS3.out HN1.out HN2.out HN3.out x y z W HX.out HY.out HZ.out
 have HGC := Lib.hid HG
 clear HG HS1 HS2 HS3 HN1 HN2 HN3 HX HY HZ
 obtain ⟨⟨x0, x1, x2, x3⟩, ⟨y0, y1, y2, y3⟩, z0, z1, z2, z3⟩ := HSB.out.ext HE8.out
 go_wp2_with (fail)
 refine (HGC.out.c1 w8 HE8.out).mono ?_
 rintro e w9 ⟨rfl, e9⟩
 have HE9 := Lib.hid (HE8.out.trans e9)
 clear x0 x1 x2 x3 y0 y1 y2 y3 z0 z1 z2 z3 e9 HE8
 -- the degree of the products
 go_upto_region 10 with (fail)
 have HS10 : Hid (SB3 g0 x y z w9.drew) := (HSB.out.ext HE9.out).ext (Ext.refl _).drew
 have HD10 : Hid (Ext W w9.drew) := HE9.out.trans (Ext.refl _).drew
 refine wp_region_u (SB3 g0 x y z) 13 (by kernel_rfl) HS10.out (fun hHeld => ?_)
 generalize w9.drew = wd at *
 (refine tkB [0, 1, 3, 4, 6] ?_; (iterate 5 (refine tk1 (oi := ?_) (v := ?_) (by kernel_rfl) (by first | exact hSn | exact hHeld) ?_ ?_ ?_ ?_ ?_; rotate_left 2; (simp only [xgA, xgB, xgC]; rfl); rfl; (intro wS hSw; obtain ⟨⟨A0, A1, A2, A3⟩, ⟨B0, B1, B2, B3⟩, C0, C1, C2, C3⟩ := hSw; go_simp; try with_reducible rfl); (exact fun _ _ _ h => h); (try simp only [Act.put, xgD, xgE, xgF]))); refine tkE ?_)
 ((refine wpAnyU_one 2 (o := ?_) (by kernel_rfl) ?_ ?_; rotate_left 1; (simp only [xgA, xgB, xgC]; rfl); intro K hK); go_simp; (refine (HGC.out.m1 wd HD10.out).mono ?_); rintro e_ v1 ⟨u, rfl, hu, d1⟩; go_wp2_with (fail); (try clear hSn); (have hSn := hHeld.ext d1); (refine hK.out _ _ (fun _ => hSn) ?_); clear hK K; (try simp only [Act.put, xgD, xgE, xgF]))
 ((refine wpAnyU_one 5 (o := ?_) (by kernel_rfl) ?_ ?_; rotate_left 1; (simp only [xgA, xgB, xgC]; rfl); intro K hK); go_simp; (refine (HGC.out.m2 v1 (HD10.out.trans d1)).mono ?_); rintro e_ v2 ⟨v, rfl, hv, d2⟩; go_wp2_with (fail); (try clear hSn); (have hSn := hHeld.ext (d1.trans d2)); (refine hK.out _ _ (fun _ => hSn) ?_); clear hK K; (try simp only [Act.put, xgD, xgE, xgF]))
 ((refine wpAnyU_one 7 (o := ?_) (by kernel_rfl) ?_ ?_; rotate_left 1; (simp only [xgA, xgB, xgC]; rfl); intro K hK); go_simp; (refine (HGC.out.c2 v2 u v (hu.ext d2) hv).mono ?_); rintro e_ v3 ⟨rfl, d3⟩; go_wp2_with (fail); (try clear hSn); (have hSn := hHeld.ext ((d1.trans d2).trans d3)); (refine hK.out _ _ (fun _ => hSn) ?_); clear hK K; (try simp only [Act.put, xgD, xgE, xgF]))
 (refine tkB [8, 9, 10, 11, 12] ?_; (iterate 5 (refine tk1 (oi := ?_) (v := ?_) (by kernel_rfl) (by first | exact hSn | exact hHeld) ?_ ?_ ?_ ?_ ?_; rotate_left 2; (simp only [xgA, xgB, xgC]; rfl); rfl; (intro wS hSw; obtain ⟨⟨A0, A1, A2, A3⟩, ⟨B0, B1, B2, B3⟩, C0, C1, C2, C3⟩ := hSw; go_simp; try with_reducible rfl); (exact fun _ _ _ h => h); (try simp only [Act.put, xgD, xgE, xgF]))); refine tkE ?_)
 refine wpAnyU_done (by kernel_rfl) ?_ _
 have HE10 := Lib.hid (HD10.out.trans ((d1.trans d2).trans d3))
 clear hHeld hSn d1 d2 d3 hu hv HS10 HD10 HE9
 go_upto_region 11 with (fail)
 have HS11 : Hid (SB3 g0 x y z v3.drew) := (HSB.out.ext HE10.out).ext (Ext.refl _).drew
 have HD11 : Hid (Ext W v3.drew) := HE10.out.trans (Ext.refl _).drew
 refine wp_region_u (SB3 g0 x y z) 13 (by kernel_rfl) HS11.out (fun hHeld => ?_)
 generalize v3.drew = wd at *
 (refine tkB [0, 1, 3, 4, 6] ?_; (iterate 5 (refine tk1 (oi := ?_) (v := ?_) (by kernel_rfl) (by first | exact hSn | exact hHeld) ?_ ?_ ?_ ?_ ?_; rotate_left 2; (simp only [xgA, xgB, xgC]; rfl); rfl; (intro wS hSw; obtain ⟨⟨A0, A1, A2, A3⟩, ⟨B0, B1, B2, B3⟩, C0, C1, C2, C3⟩ := hSw; go_simp; try with_reducible rfl); (exact fun _ _ _ h => h); (try simp only [Act.put, xgD, xgE, xgF]))); refine tkE ?_)
 ((refine wpAnyU_one 2 (o := ?_) (by kernel_rfl) ?_ ?_; rotate_left 1; (simp only [xgA, xgB, xgC]; rfl); intro K hK); go_simp; (refine (HGC.out.m1 wd HD11.out).mono ?_); rintro e_ q1 ⟨u2, rfl, hu, d1⟩; go_wp2_with (fail); (try clear hSn); (have hSn := hHeld.ext d1); (refine hK.out _ _ (fun _ => hSn) ?_); clear hK K; (try simp only [Act.put, xgD, xgE, xgF]))
 ((refine wpAnyU_one 5 (o := ?_) (by kernel_rfl) ?_ ?_; rotate_left 1; (simp only [xgA, xgB, xgC]; rfl); intro K hK); go_simp; (refine (HGC.out.m2 q1 (HD11.out.trans d1)).mono ?_); rintro e_ q2 ⟨v2', rfl, hv, d2⟩; go_wp2_with (fail); (try clear hSn); (have hSn := hHeld.ext (d1.trans d2)); (refine hK.out _ _ (fun _ => hSn) ?_); clear hK K; (try simp only [Act.put, xgD, xgE, xgF]))
 ((refine wpAnyU_one 7 (o := ?_) (by kernel_rfl) ?_ ?_; rotate_left 1; (simp only [xgA, xgB, xgC]; rfl); intro K hK); go_simp; (refine (HGC.out.c3 q2 u2 v2' (hu.ext d2) hv).mono ?_); rintro e_ q3 ⟨vl, rfl, hl, d3⟩; go_wp2_with (fail); (try clear hSn); (have hSn := hHeld.ext ((d1.trans d2).trans d3)); (refine hK.out _ _ (fun _ => hSn) ?_); clear hK K; (try simp only [Act.put, xgD, xgE, xgF]))
 (refine tkB [8, 9, 10, 11, 12] ?_; (iterate 5 (refine tk1 (oi := ?_) (v := ?_) (by kernel_rfl) (by first | exact hSn | exact hHeld) ?_ ?_ ?_ ?_ ?_; rotate_left 2; (simp only [xgA, xgB, xgC]; rfl); rfl; (intro wS hSw; obtain ⟨⟨A0, A1, A2, A3⟩, ⟨B0, B1, B2, B3⟩, C0, C1, C2, C3⟩ := hSw; go_simp; try with_reducible rfl); (exact fun _ _ _ h => h); (try simp only [Act.put, xgD, xgE, xgF]))); refine tkE ?_)
 refine wpAnyU_done (by kernel_rfl) ?_ _
 obtain ⟨ul, rfl, HL⟩ := hl.open
 have HE11 := Lib.hid (HD11.out.trans ((d1.trans d2).trans d3))
 have HNN : Hid (k + t = n' ∧ n' ≤ N ∧ N ≤ 8) := ⟨HGC.out.kt, HGC.out.nN, HGC.out.b6⟩
 have hN8 : (N : Int) ≤ 8 := by have := HNN.out.2.2; omega
 have hmin : min (n' : Int) (N : Int) = (n' : Int) := by have := HNN.out.2.1; omega
 clear hHeld hSn d1 d2 d3 hu hv hl HS11 HD11 HE10
 go_wp2
 go_loopw [17] (fun jv wr => ∃ j : Nat, j ≤ n' ∧ jv = .int .i64 (j : Int) ∧ Hid (Ext q3 wr)) (fun jv _ => n' - (intOf jv).toNat)
 case atStart => exact ⟨0, Nat.zero_le _, rfl, Ext.refl _⟩
 case round =>
  obtain ⟨j, hj, rfl, HER⟩ := hrel
  have hj0 : (0 : Int) ≤ (j : Int) := Int.natCast_nonneg _
  by_cases hjn : j < n'
  ·have hjI : (j : Int) < (n' : Int) := by omega
   have hnb := HNN.out
   have hjN : (j : Int) < (N : Int) := by omega
   obtain ⟨gl, rfl, hk⟩ := HL.out (by omega)
   obtain ⟨za, hza, hxa⟩ := hk.cel j (by omega)
   have hSK := (hza.ext hk.lt HER.out)
   obtain ⟨c0, c1, c2, c3⟩ := hSK
   have CZ := Lib.hid (rp_IsZero M0 za (F j) wr (mb0 _) ((hxa.more fun b hb => .inl (.inl hb)).ext HER.out).pi)
   have HZJ := Lib.hid (HGC.out.z0 j hjn)
   have HJN : Hid (j < n') := hjn
   clear hza hxa hk hnb hj hjn
   go_wp2_with (fail)
   refine CZ.out.mono ?_
   rintro e w12 ⟨b, rfl, hb, e12⟩
   obtain rfl : b = true := hb.2 HZJ.out
   have HE12 := Lib.hid (HER.out.trans e12)
   clear hb e12 HER CZ c0 c1 c2 c3
   go_wp2
   go_roundw
   case rel => exact ⟨j + 1, HJN.out, by go_num, HE12.out⟩
   case measure => have := HJN.out; simp [intOf]; omega
  ·have hjI : ¬ (j : Int) < (n' : Int) := by omega
   obtain ⟨⟨x0, x1, x2, x3⟩, ⟨y0, y1, y2, y3⟩, z0, z1, z2, z3⟩ := HSB.out.ext (HE11.out.trans HER.out)
   have hk8 : (k : Int) ≤ 8 ∧ (t : Int) ≤ 8 ∧ (0 : Int) ≤ k ∧ (0 : Int) ≤ t := by have := HNN.out; omega
   have hkt : (k : Int) + (t : Int) = (n' : Int) := by have := HNN.out.1; omega
   have hw : IntKind.i64.wrap ((k : Int) + (t : Int)) = (n' : Int) := by rw [IntWalk.i64_in _ (by omega), hkt]
   clear hj hjn
   go_wp2_with (fail)
   refine (HGC.out.dg wr (HE11.out.trans HER.out)).mono ?_
   rintro e w13 ⟨rfl, e13⟩
   have HF := Lib.hid (HE.out.trans ((HE11.out.trans HER.out).trans e13))
   clear x0 x1 x2 x3 y0 y1 y2 y3 z0 z1 z2 z3 e13 HER
   go_wp2
   go_ret
   exact ⟨by simp, HF.out⟩
end Go.Proofs.YtjhhekmfdhfjpaaGreat

namespace Go.Proofs.YtjhhekmfdhfjpaaGreat
open Go.ChangeShapes Go.WideShapes Go.ChangeAt Go.RowKit Go.Deep

namespace subresultantGcd
theorem own : ownKnob Tryz.prog.godebug = none := by kernel_rfl
set_option maxRecDepth 100000 in
theorem contract (H : Type) (enc : TypeId × Value → H) (W : World) (base : Nat) (args : Array Value) (ds gs : List (DataW H)) (before : List MemPlace)
  (hval : ∀ (j : Nat) t v, Tryz.f6.params[j]? = some t → args[j]? = some v → Value.okWide Tryz.prog W .any base t v)
  (hW : DataW.Whole enc Tryz.prog Tryz.f6.params.toList Rows.subresultantGcdSpec.vars false W args.toList ds gs before) :
  Calls Tryz.prog 6 args W fun e W' => ∃ v, e = .returned v ∧ Rows.subresultantGcdSpec.post enc Tryz.prog Tryz.f6 false true false false W args v W' := by
 have hW' := hW
 obtain ⟨p, q, hA0, hV, rfl, hfz, hnd⟩ := hW
 have hA : DataW.TrodAll enc Tryz.prog W 0 (fun _ => true) true Tryz.f6.params.toList args.toList ds p := hA0
 rw [Tryz.params6] at hA hval
 obtain ⟨v0, vs0, d0, ds0, p0, q0, hargs, rfl, rfl, h0, r0⟩ := trodAll_cons hA
 obtain ⟨v1, vs1, d1, ds1, p1, q1, rfl, rfl, rfl, h1, r1⟩ := trodAll_cons r0
 obtain ⟨v2, vs2, d2, ds2, p2, q2, rfl, rfl, rfl, h2, r2⟩ := trodAll_cons r1
 obtain ⟨rfl, rfl, rfl⟩ := trodAll_nil r2
 obtain rfl : args = #[v0, v1, v2] := by cases args; simp_all
 obtain ⟨rfl, rfl⟩ := trodVars_none hV
 obtain ⟨a0, n0, c0, X0, rfl, g0⟩ := open_poly (hval 0 23 v0 rfl rfl) h0
 obtain ⟨a1, n1, c1, X1, rfl, g1⟩ := open_poly (hval 1 23 v1 rfl rfl) h1
 obtain ⟨a2, n2, c2, X2, rfl, g2⟩ := open_poly (hval 2 23 v2 rfl rfl) h2
 refine (law_gcd25 a0 a1 a2 n0 c0 n1 c1 n2 c2 X0 X1 X2 W g0 g1 g2).mono fun e W' ⟨he, hg⟩ => ?_
 subst he
 refine ⟨_, rfl, post_true (tb := 4) (by kernel_rfl) ?_ rfl rfl (by kernel_rfl) Tryz.underlying4 hW' hg⟩
 rw [Tryz.params6]
 intro t ht
 simp only [List.mem_cons, List.not_mem_nil, or_false, or_self, or_self_left] at ht
 subst ht
 exact ⟨by kernel_rfl, of_decide_eq_true (by kernel_rfl)⟩
set_option maxRecDepth 100000 in
theorem lifted (os : Os) (started : os.Started) (H : Type) (enc : TypeId × Value → H) :
  ReturnsInHanded {} Tryz.checked os 6 .any (Rows.subresultantGcdSpec.pre6 enc Tryz.prog Tryz.f6 Rows.subresultantGcdRow.domain false) (Rows.subresultantGcdSpec.post enc Tryz.prog Tryz.f6 false true false false) := by
 refine returnsInHanded_of_change (C := Tryz.checked) own started (by kernel_rfl) Tryz.func6
  (ChangeSpec.witness6 (enc := enc) (C := Tryz.checked) false ⟨#[], #[.slice none 0 0, .slice none 0 0, .slice none 0 0], []⟩ 8 (by kernel_rfl) (by kernel_rfl) (by kernel_rfl) (by kernel_rfl)) ?_
 intro W base args ds gs before hval hW _ _
 exact contract H enc W base args ds gs before hval hW
theorem kInp : (Rows.subresultantGcdRow.inPlace == Tryz.pinned.checked.prog.inPlace 6) = true := by kernel_rfl
theorem kUnf : (Rows.subresultantGcdRow.unfollowed == Tryz.pinned.checked.prog.unfollowed 6) = true := by kernel_rfl
theorem kRec : (Rows.subresultantGcdRow.recurses == Tryz.pinned.checked.prog.recurses 6) = true := by kernel_rfl
theorem kNam : (Rows.subresultantGcdRow.named == Tryz.pinned.checked.prog.varsNamed 6) = true := by kernel_rfl
theorem kLaid : laidOutB Tryz.pinned.checked.prog = true := by kernel_rfl
theorem closed : joinedFacts Tryz.pinned.checked.prog 6 Tryz.f6 Rows.subresultantGcdSpec Rows.subresultantGcdRow = true := by
 unfold joinedFacts
 rw [kInp, kUnf, kRec, kNam, kLaid]
 kernel_rfl
theorem proved : Rows.SubresultantGcdSaid :=
 OpenClaim.holds_of_wide (p := Tryz.pinned) (s := Rows.subresultantGcdSpec) (c := Rows.subresultantGcdRow) 6 Tryz.f6 rfl rfl rfl rfl rfl rfl rfl ⟨rfl, rfl, rfl, rfl, rfl⟩ rfl rfl rfl rfl rfl (by kernel_rfl) Tryz.func6 closed
  (of_decide_eq_true (by kernel_rfl)) (by unfold Func.isWrapper; first | (rw [if_pos (by decide +kernel)]; kernel_rfl) | (rw [if_neg (by decide +kernel)]; exact ⟨rfl, rfl⟩))
  (fun os started H enc _ => lifted os started H enc)
end subresultantGcd
end Go.Proofs.YtjhhekmfdhfjpaaGreat
