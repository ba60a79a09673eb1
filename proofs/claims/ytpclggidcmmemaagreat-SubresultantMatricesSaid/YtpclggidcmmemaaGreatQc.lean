/- subresultant.down. subresultant.rows. append of a whole matrix. -/
import Derived.Test.YtpclggidcmmemaaGreatQb
import Derived.Laws.AppendOwnNone
set_option linter.unusedVariables false
set_option linter.unusedSimpArgs false

namespace Go.Proofs.YtpclggidcmmemaaGreat
open Go.RowKit

def dnf (z : Int) : Nat → Value := fun j => .int .i64 (z - (j : Int))
theorem dnf_app (z : Int) (c j : Nat) (hj : j < (c + 1) * 1) : app (dnf z) c (arr #[.int .i64 (z - (c : Int))]) j = dnf z j := by
 unfold app
 by_cases h : j < c
 ·rw [if_pos h]
 ·rw [if_neg h]
  obtain rfl : j = c := by omega
  rw [Nat.sub_self]; rfl
def RetDn (w : World) (z : Int) (n : Nat) (e : Ending) (w' : World) : Prop := ∃ a cap, e = .returned (.slice a n cap) ∧ Own w' w.heap.size 3 1 (.slice a n cap) n (dnf z) ∧ Ext w w'
set_option maxRecDepth 100000 in
set_option maxHeartbeats 4000000 in
theorem sr_down (w : World) (z y : Int) (n : Nat) (hn : n ≤ 100000) (hz : -100000 ≤ z ∧ z ≤ 100000) (h : ∀ k : Nat, k ≤ n → (k < n ↔ y ≤ z - (k : Int))) : Calls Tryz.prog 46 #[.int .i64 z, .int .i64 y] w (RetDn w z n) := by
 obtain ⟨i0, hi, hz0, hz1, hz2⟩ := info_parts Tryz.info3
 have HH := Lib.hid h
 have HZ := Lib.hid hz
 have HN := Lib.hid hn
 clear h hz hn
 go_enter Tryz.func46, Tryz.ntmps46
 go_wp2
 go_loopw [6, 5] (fun iv v wr => ∃ k : Nat, k ≤ n ∧ iv = .int .i64 (z - (k : Int)) ∧ Own wr w.heap.size 3 1 v k (dnf z) ∧ Hid (Ext w wr)) (fun iv _ _ => n - (z - intOf iv).toNat)
 case atStart => exact ⟨0, Nat.zero_le _, by simp, Own.nil _ _ _ _ _, Ext.refl _⟩
 case round =>
  obtain ⟨k, hk, rfl, hO, HER⟩ := hrel
  obtain ⟨va, vc, rfl⟩ := hO.form
  have hsz := HER.out.size
  by_cases hlt : k < n
  ·have hge : y ≤ z - (k : Int) := (HH.out k hk).1 hlt
   have hkn : k ≤ 100000 := by have := HN.out; omega
   have hO5 := hO.ext ((Ext.refl _).alloc (.cells #[.int .i64 (z - (k : Int))] 3))
   have hB5 := Blk.of_arr wr #[.int .i64 (z - (k : Int))] 3 1 rfl
   have HONE := Lib.hid (one_int (z - (k : Int)))
   have HE1 := Lib.hid ((Ext.refl wr).alloc (.cells #[.int .i64 (z - (k : Int))] 3))
   have hw : IntKind.i64.wrap (z - (k : Int) - 1) = z - ((k + 1 : Nat) : Int) := by rw [IntWalk.i64_in _ (by have := HZ.out; omega)]; omega
   go_wp2_with (at_builtin; refine wpList_append_fn _ rfl (.tmp 13) (.tmp 15) _ rfl w.heap.size 3 i0 _ 1 8 Tryz.underlying84 hi hz0 hz1 hz2 rfl (by omega) (.slice va k vc) k (dnf z) rfl hO5 wr.heap.size 3 1 (arr #[.int .i64 (z - (k : Int))]) rfl hB5 HONE.out ?s1 ?s2 ?s3 ?_)
   case s1 => unfold maxLen; omega
   case s2 => omega
   case s3 => simp; omega
   intro gg cap2 w2 hO6 hg6 hat hlt6
   have HF : Hid (Ext w w2) := (HER.out.trans HE1.out).grown hg6 (fun g hg => (hO.lt g hg).1)
   have hO7 := hO6.congr fun j hj => dnf_app z k j hj
   clear hO6 hg6 hat hO5 hB5 hO HE1 HONE
   go_wp2
   go_roundw
   case rel => exact ⟨k + 1, by omega, by go_num, hO7, HF⟩
   case measure => simp [intOf]; omega
  ·obtain rfl : k = n := by omega
   have hge : ¬ y ≤ z - (k : Int) := fun hc => hlt ((HH.out k hk).2 hc)
   have HF : Hid (RetDn w z k (.returned (.slice va k vc)) wr) := ⟨va, vc, rfl, hO, HER.out⟩
   clear hO HER
   go_wp2
   exact bodyPost_ret (v := .slice va k vc) (by simp [results, Tryz.results46, go_sem]) rfl HF.out
end Go.Proofs.YtpclggidcmmemaaGreat

namespace Go.Proofs.YtpclggidcmmemaaGreat
open Go.RowKit

def KidC (M : Nat → Prop) (w : World) (g N c : Nat) (P : Nat → List Tm) : Prop := (N ≤ c ∧ c ≤ maxLen) ∧ ∃ f, Blk w g 33 (c * 4) f ∧ ∀ i, i < N → CR M w 4 (f (i * 4)) (f (i * 4 + 1)) (f (i * 4 + 2)) (f (i * 4 + 3)) (P i)
theorem KidC.of {M : Nat → Prop} {w : World} {g N : Nat} {P : Nat → List Tm} (h : Kids M w 4 g N P) (hN : N ≤ 1000) : KidC M w g N N P := ⟨⟨Nat.le_refl _, by unfold maxLen; omega⟩, h⟩
theorem KidC.kp {M : Nat → Prop} {w w' : World} {g N c : Nat} {P : Nat → List Tm} (h : KidC M w g N c P) (hg : w'.heap[g]? = w.heap[g]?) (hk : Kp M w w') : KidC M w' g N c P := by
 obtain ⟨h0, f, h1, h2⟩ := h
 exact ⟨h0, f, h1.of_heap hg, fun i hi => (h2 i hi).kp hk⟩
theorem KidC.ext {M : Nat → Prop} {w w' : World} {g N c : Nat} {P : Nat → List Tm} (h : KidC M w g N c P) (he : Ext w w') : KidC M w' g N c P := by
 obtain ⟨h0, f, h1, h2⟩ := h
 exact ⟨h0, f, h1.ext he, fun i hi => (h2 i hi).ext he⟩
theorem KidC.more {M M' : Nat → Prop} {w : World} {g N c : Nat} {P : Nat → List Tm} (h : KidC M w g N c P) (hm : ∀ g, M' g → M g ∨ w.heap.size ≤ g) : KidC M' w g N c P := by
 obtain ⟨h0, f, h1, h2⟩ := h
 exact ⟨h0, f, h1, fun i hi => (h2 i hi).more hm⟩
theorem KidC.lt {M : Nat → Prop} {w : World} {g N c : Nat} {P : Nat → List Tm} (h : KidC M w g N c P) : g < w.heap.size := by
 obtain ⟨_, f, h1, _⟩ := h
 exact h1.lt
def rwf (gs cs : Nat → Nat) (N : Nat) : Nat → Value := fun k => .slice (some ⟨gs k, 0, none⟩) N (cs k)
theorem one_mrow (g N c j : Nat) (hj : j < 1) : (arr #[.slice (some ⟨g, 0, none⟩) N c] j).oneCell' = true := by
 obtain rfl : j = 0 := by omega
 rfl
theorem rwf_app (gs cs : Nat → Nat) (N c g d j : Nat) (hj : j < (c + 1) * 1) : app (rwf gs cs N) c (arr #[.slice (some ⟨g, 0, none⟩) N d]) j = rwf (snoc gs c g) (snoc cs c d) N j := by
 unfold app
 by_cases h : j < c
 ·rw [if_pos h]; unfold rwf; rw [snoc_lt _ _ _ _ h, snoc_lt _ _ _ _ h]
 ·rw [if_neg h]
  obtain rfl : j = c := by omega
  rw [Nat.sub_self]; unfold rwf; rw [snoc_at, snoc_at]; rfl
def Mat (M : Nat → Prop) (w : World) (base : Nat) (v : Value) (S N : Nat) (P : Nat → Nat → List Tm) : Prop := ∃ gs cs : Nat → Nat, Own w base 31 1 v S (rwf gs cs N) ∧ (S = 0 → v = .slice none 0 0) ∧ ∀ k, k < S → base ≤ gs k ∧ v.ownBlock ≠ some (gs k) ∧ KidC (MR M v) w (gs k) N (cs k) (P k)
theorem Mat.nil (M : Nat → Prop) (w : World) (base N : Nat) (P : Nat → Nat → List Tm) : Mat M w base (.slice none 0 0) 0 N P := ⟨fun _ => 0, fun _ => 0, Own.nil _ _ _ _ _, fun _ => rfl, fun k hk => absurd hk (Nat.not_lt_zero _)⟩
theorem Mat.ext {M : Nat → Prop} {w w' : World} {base : Nat} {v : Value} {S N : Nat} {P : Nat → Nat → List Tm} (h : Mat M w base v S N P) (he : Ext w w') : Mat M w' base v S N P := by
 obtain ⟨gs, cs, h1, h0, h2⟩ := h
 exact ⟨gs, cs, h1.ext he, h0, fun k hk => ⟨(h2 k hk).1, (h2 k hk).2.1, (h2 k hk).2.2.ext he⟩⟩
theorem KidC.grown {M : Nat → Prop} {wa wb : World} {v : Value} {gg g n cap N c : Nat} {P : Nat → List Tm} (hP : KidC (MR M v) wa g N c P) (hv : v.ownBlock ≠ some g) (hg : wa.grownBy wb v.ownBlock) (hat : v.ownBlock = some gg ∨ wa.heap.size ≤ gg) : KidC (MR M (.slice (some ⟨gg, 0, none⟩) n cap)) wb g N c P := by
 have h1 := hP.more (M' := fun b => MR M v b ∨ b = gg) (fun b hb => hb.elim .inl fun e => by
  rcases hat with h | h
  ·exact .inl (.inr (by rw [h, e]))
  ·exact .inr (by omega))
 have hkp : Kp (fun b => MR M v b ∨ b = gg) wa wb := Kp.grown hg fun k hk => .inl (.inr hk)
 have hheap : wb.heap[g]? = wa.heap[g]? := (Kp.grown (M := fun b => v.ownBlock = some b) hg fun k hk => hk).2 g hP.lt (fun h => hv h)
 have h2 := h1.kp hheap hkp
 exact h2.more fun b hb => .inl (hb.elim (fun h => .inl (.inl h)) fun h => .inr (by simp only [Value.ownBlock, Option.some.injEq] at h; exact h.symm))
def MatG (M : Nat → Prop) (w : World) (base : Nat) (v : Value) (S N : Nat) (P : Nat → Nat → List Tm) (gs cs : Nat → Nat) : Prop := ∀ k, k < S → base ≤ gs k ∧ v.ownBlock ≠ some (gs k) ∧ KidC (MR M v) w (gs k) N (cs k) (P k)
theorem Mat.push {M : Nat → Prop} {wa wb : World} {base : Nat} {v : Value} {S N gg g d cap : Nat} {P : Nat → Nat → List Tm} {gs cs : Nat → Nat} (h : MatG M wa base v S N P gs cs) (hO : Own wb base 31 1 (.slice (some ⟨gg, 0, none⟩) (S + 1) cap) (S + 1) (app (rwf gs cs N) S (arr #[.slice (some ⟨g, 0, none⟩) N d]))) (hK : KidC (MR M v) wa g N d (P S)) (hv : v.ownBlock ≠ some g) (hb : base ≤ g) (hg : wa.grownBy wb v.ownBlock) (hat : v.ownBlock = some gg ∨ wa.heap.size ≤ gg) : Mat M wb base (.slice (some ⟨gg, 0, none⟩) (S + 1) cap) (S + 1) N P := by
 refine ⟨snoc gs S g, snoc cs S d, hO.congr fun j hj => rwf_app _ _ _ _ _ _ _ hj, fun h => absurd h (Nat.succ_ne_zero _), fun k hk => ?_⟩
 have hne : ∀ q, q < wa.heap.size → v.ownBlock ≠ some q → (Value.slice (some ⟨gg, 0, none⟩) (S + 1) cap).ownBlock ≠ some q := fun q hq h1 h2 => by
  simp only [Value.ownBlock, Option.some.injEq] at h2
  rcases hat with h3 | h3
  ·exact h1 (by rw [h3, h2])
  ·omega
 by_cases hkS : k = S
 ·subst hkS
  rw [snoc_at, snoc_at]
  exact ⟨hb, hne _ hK.lt hv, hK.grown hv hg hat⟩
 ·rw [snoc_lt _ _ _ _ (by omega), snoc_lt _ _ _ _ (by omega)]
  have h3 := h k (by omega)
  exact ⟨h3.1, hne _ h3.2.2.lt h3.2.1, h3.2.2.grown h3.2.1 hg hat⟩
def RetRw (M : Nat → Prop) (w : World) (S N : Nat) (P : Nat → Nat → List Tm) (e : Ending) (w' : World) : Prop := ∃ a cap, e = .returned (.slice a S cap) ∧ Mat M w' w.heap.size (.slice a S cap) S N P ∧ Ext w w'
def Num (w : World) (a : Option Addr) (n cap : Nat) (f : Nat → Int) : Prop := ∀ j, j < n → ∃ g, a = some ⟨g, 0, none⟩ ∧ w.cell? ⟨g, j, none⟩ = some (.int .i64 (f j)) ∧ g < w.heap.size ∧ n ≤ cap ∧ cap ≤ maxLen
theorem Num.ext {w w' : World} {a : Option Addr} {n cap : Nat} {f : Nat → Int} (h : Num w a n cap f) (he : Ext w w') : Num w' a n cap f := fun j hj => by
 obtain ⟨g, h1, h2, h3, h4⟩ := h j hj
 exact ⟨g, h1, by rw [he.cell h3]; exact h2, Nat.lt_of_lt_of_le h3 he.size, h4⟩
theorem Own.num {w : World} {base : Nat} {a : Option Addr} {n cap : Nat} {f : Nat → Int} (h : Own w base 3 1 (.slice a n cap) n (fun j => .int .i64 (f j))) : Num w a n cap f := fun j hj => by
 obtain ⟨g, c, F, h1, _, h2, h3, h4, h5⟩ := h.some (by omega)
 cases h1
 refine ⟨g, rfl, ?_, h2.lt, h3, h4⟩
 rw [h2.cell (by omega), h5 j (by omega)]
set_option maxRecDepth 100000 in
set_option maxHeartbeats 16000000 in
theorem sr_rows (M : Nat → Prop) (w : World) (J L gc : Nat) (l : List Tm) (pa sa : Option Addr) (N pc S sc : Nat) (pw sh : Nat → Int) (hM : Mb M w) (hK : Kids M w 4 gc L (fun i => ck J (i : Int) l)) (hP : Num w pa N pc pw) (hS : Num w sa S sc sh) (hN : N ≤ 1000) (hS2 : S ≤ 1000) (hn : L ≤ 1001) (hpw : ∀ i, i < N → -10000 ≤ pw i ∧ pw i ≤ 10000) (hsh : ∀ i, i < S → -10000 ≤ sh i ∧ sh i ≤ 10000)
  (hz : ∀ e : Int, e < 0 ∨ (L : Int) ≤ e → Sim (ck J e l) []) :
  Calls Tryz.prog 47 #[.slice (some ⟨gc, 0, none⟩) L L, .slice pa N pc, .slice sa S sc] w (RetRw M w S N (fun k i => ck J (pw i - sh k) l)) := by
 obtain ⟨i0, hi, hz0, hz1, hz2⟩ := info_parts Tryz.info33
 obtain ⟨j0, ji, jz0, jz1, jz2⟩ := info_parts Tryz.info31
 have HM := Lib.hid hM
 have HK := Lib.hid hK
 have HP := Lib.hid hP
 have HS := Lib.hid hS
 have HN := Lib.hid hN
 have HS2 := Lib.hid hS2
 have HN2 := Lib.hid hn
 have HPW := Lib.hid hpw
 have HSH := Lib.hid hsh
 have HZ := Lib.hid hz
 clear hM hK hP hS hN hS2 hn hpw hsh hz
 go_enter Tryz.func47, Tryz.ntmps47
 go_wp2
 go_loopw [16, 7] (fun iv v wr => ∃ k : Nat, k ≤ S ∧ iv = .int .i64 (k : Int) ∧ Hid (Mat M wr w.heap.size v k N (fun k i => ck J (pw i - sh k) l)) ∧ Hid (Ext w wr)) (fun iv _ _ => S - (intOf iv).toNat)
 case atStart => exact ⟨0, Nat.zero_le _, rfl, Mat.nil _ _ _ _ _, Ext.refl _⟩
 case round =>
  obtain ⟨k, hk, rfl, HMt, HER⟩ := hrel
  obtain ⟨gs, cs, hO, hnil, hG⟩ := HMt.out
  obtain ⟨va, vc, rfl⟩ := hO.form
  have HNIL := Lib.hid hnil
  clear hnil
  by_cases hlt : k < S
  ·obtain ⟨gsb, rfl, s0, s1, s2, s3⟩ := HS.out.ext HER.out k hlt
   have hltI : (k : Int) < (S : Int) := by omega
   have hk0 : (0 : Int) ≤ (k : Int) := Int.natCast_nonneg _
   have hSI : (S : Int) ≤ 1000 := by have := HS2.out; omega
   obtain ⟨sq, hsq⟩ : ∃ sq, sq = sh k := ⟨_, rfl⟩
   rw [← hsq] at s0
   have HSQ := Lib.hid hsq
   have HO := Lib.hid hO
   have HG : Hid (MatG M wr w.heap.size (.slice va k vc) k N (fun k i => ck J (pw i - sh k) l) gs cs) := hG
   have HLT := Lib.hid hlt
   have hNI : (N : Int) ≤ 1000 := by have := HN.out; omega
   have hNN := HN.out
   clear hO hG HMt hsq hk hlt
   go_wp2_with (first | (at_make; refine wpList_makeX _ rfl _ _ _ rfl 33 i0 (.agg #[.int .i64 0, .bool false, .slice none 0 0, .slice none 0 0]) 4 Tryz.underlying31 hi hz0 hz1 .i64 .i64 _ _ N rfl rfl ?c4 ?c5 ?c2 ?c3 ?_))
   case c2 => rw [hz2]; omega
   case c3 => unfold maxLen; omega
   case c4 => go_num
   case c5 => go_num
   have hBk := blk_madeAlloc wr N 33
   have he1 := (Ext.refl wr).alloc (.cells (madeCells (Value.agg #[.int .i64 0, .bool false, .slice none 0 0, .slice none 0 0]).cells (N * 4)) 33)
   intro w1 hw1
   replace hw1 : wr.alloc (.cells (madeCells (Value.agg #[.int .i64 0, .bool false, .slice none 0 0, .slice none 0 0]).cells (N * 4)) 33) = w1 := hw1.out.symm
   rw [hw1] at hBk he1
   obtain ⟨gr, hgr⟩ : ∃ gr, gr = wr.heap.size := ⟨_, rfl⟩
   rw [← hgr] at hBk ⊢
   have HGR : Hid (gr = wr.heap.size) := hgr
   have HM1 : Hid (Mb (fun b => MR M (.slice va k vc) b ∨ b = gr) w1) := mb_ins ((mr_own HM.out HER.out HO.out).ext he1) hBk.lt
   have HT1 : Hid (Kids (fun b => MR M (.slice va k vc) b ∨ b = gr) w1 4 gr N (fun i => if i < 0 then ck J (pw i - sq) l else [])) := (Kids.fresh hBk).congr fun i _ => by rw [if_neg (by omega)]; exact Sim.refl _
   have HE1 : Hid (Ext wr w1) := he1
   have HMG : Hid ((fun b => MR M (.slice va k vc) b ∨ b = gr) gr) := .inr rfl
   have HMQ : Hid (∀ b, MR M (.slice va k vc) b → (fun b => MR M (.slice va k vc) b ∨ b = gr) b) := fun b h => .inl h
   have HMW : Hid (∀ b, (fun b => MR M (.slice va k vc) b ∨ b = gr) b → M b ∨ w.heap.size ≤ b) := fun b h => by
    rcases h with (h | h) | h
    ·exact .inl h
    ·exact .inr (HO.out.lt b h).1
    ·exact .inr (by have := HER.out.size; omega)
   clear hBk he1 hw1 hgr s0 s1 s2 s3
   generalize (fun b => MR M (.slice va k vc) b ∨ b = gr) = M1 at *
   obtain ⟨wo, rfl⟩ : ∃ wo, wo = wr := ⟨_, rfl⟩
   go_wp2
   go_loopw [25] (fun iv wi => ∃ t : Nat, t ≤ N ∧ iv = .int .i64 (t : Int) ∧ Hid (Kids M1 wi 4 gr N (fun i => if i < t then ck J (pw i - sq) l else [])) ∧ Hid (Mb M1 wi) ∧ Hid (Ext wo wi)) (fun iv _ => N - (intOf iv).toNat)
   case atStart => exact ⟨0, Nat.zero_le _, rfl, HT1, HM1, HE1⟩
   case round =>
    clear HT1 HM1 HE1
    obtain ⟨t, ht, rfl, HT, HMB, HEI⟩ := hrel
    by_cases htl : t < N
    ·obtain ⟨gp, rfl, p0, p1, p2, p3⟩ := HP.out.ext (HER.out.trans HEI.out) t htl
     have htI : (t : Int) < (N : Int) := by omega
     have ht0 : (0 : Int) ≤ (t : Int) := Int.natCast_nonneg _
     obtain ⟨pq, hpq⟩ : ∃ pq, pq = pw t := ⟨_, rfl⟩
     rw [← hpq] at p0
     obtain ⟨q, hq⟩ : ∃ q, q = pq - sq := ⟨_, rfl⟩
     have hqb : -20000 ≤ q ∧ q ≤ 20000 := by have h1 := HPW.out t htl; have h2 := HSH.out k HLT.out; have h3 := HSQ.out; omega
     have hqw : IntKind.i64.wrap (pq - sq) = q := by rw [IntWalk.i64_in _ (by omega)]; exact hq.symm
     have HQP : Hid (q = pw t - sq) := by show q = pw t - sq; omega
     have HTL := Lib.hid htl
     have hLI : (L : Int) ≤ 1001 := by have := HN2.out; omega
     clear hpq hq ht htl p1 p2 p3
     by_cases hq0 : 0 ≤ q
     ·by_cases hq1 : q < (L : Int)
      ·obtain ⟨e, he⟩ : ∃ e : Nat, q = (e : Int) := ⟨q.toNat, by omega⟩
       subst he
       have heL : e < L := by omega
       obtain ⟨z, ⟨c0, c1, c2, c3⟩, hz⟩ := ((HK.out.more HMW.out).ext (HER.out.trans HEI.out)).cel e heL
       have CN := Lib.hid (rp_Normal M1 z _ wr HMB.out hz.pi)
       clear hz
       go_wp2_with (fail)
       refine CN.out.mono ?_
       rintro e2 w8 ⟨u, rfl, hu, e8⟩
       have HK8 := Lib.hid (HT.out.ext e8)
       obtain ⟨⟨_, q0⟩, ⟨_, q1⟩, ⟨_, q2⟩, ⟨_, q3⟩, hfz, hgl8⟩ := HK8.out.at t HTL.out
       have f0 := hfz (t * 4)
       have f1 := hfz (t * 4 + 1)
       have f2 := hfz (t * 4 + 2)
       have f3 := hfz (t * 4 + 3)
       have hT9 := HK8.out.set HMG.out t HTL.out hu
       have hE9 := (HEI.out.trans e8).set4 (g := gr) (by have := HGR.out; omega) (t * 4) (.int .i64 u.lv) (.bool u.b) (.slice u.a u.n u.p) (.slice u.ka u.kn u.kp)
       have hM9 := (HMB.out.ext e8).size (Kp.set4 (M := M1) HMG.out (t * 4) (.int .i64 u.lv) (.bool u.b) (.slice u.a u.n u.p) (.slice u.ka u.kn u.kp)).1
       obtain ⟨W9, hW9⟩ : ∃ W9, W9 = set4 w8 gr (t * 4) (.int .i64 u.lv) (.bool u.b) (.slice u.a u.n u.p) (.slice u.ka u.kn u.kp) := ⟨_, rfl⟩
       rw [← hW9] at hT9 hE9 hM9
       unfold set4 at hW9
       have HW9 := Lib.hid hW9
       have HF : Hid (Kids M1 W9 4 gr N (fun i => if i < t + 1 then ck J (pw i - sq) l else []) ∧ Mb M1 W9 ∧ Ext wo W9) := ⟨hT9.congr fun i _ => by
        by_cases h1 : i = t
        ·subst h1; rw [if_pos rfl, if_pos (by omega), ← HQP.out]; exact Sim.refl _
        ·by_cases h2 : i < t
         ·rw [if_neg h1, if_pos h2, if_pos (by omega)]; exact Sim.refl _
         ·rw [if_neg h1, if_neg h2, if_neg (by omega)]; exact Sim.refl _, hM9, hE9⟩
       clear hT9 hE9 hM9 hW9 hfz hu e8 HK8 HT HMB HEI CN c0 c1 c2 c3 hgl8
       go_wp2
       rw [← HW9.out]
       clear HW9 q0 q1 q2 q3 f0 f1 f2 f3
       go_roundw
       case rel => exact ⟨t + 1, by have := HTL.out; omega, by go_num, HF.out.1, HF.out.2.1, HF.out.2.2⟩
       case measure => have := HTL.out; simp [intOf]; omega
      ·have HX : Hid (Sim (ck J q l) []) := HZ.out q (.inr (by omega))
       have HF : Hid (Kids M1 wr 4 gr N (fun i => if i < t + 1 then ck J (pw i - sq) l else [])) := HT.out.congr fun i _ => by
        by_cases h1 : i = t
        ·subst h1; rw [if_neg (by omega), if_pos (by omega), ← HQP.out]; exact HX.out.symm
        ·by_cases h2 : i < t
         ·rw [if_pos h2, if_pos (by omega)]; exact Sim.refl _
         ·rw [if_neg h2, if_neg (by omega)]; exact Sim.refl _
       clear HT HX
       go_wp2
       go_roundw
       case rel => exact ⟨t + 1, by have := HTL.out; omega, by go_num, HF, HMB, HEI⟩
       case measure => have := HTL.out; simp [intOf]; omega
     ·have HX : Hid (Sim (ck J q l) []) := HZ.out q (.inl (by omega))
      have HF : Hid (Kids M1 wr 4 gr N (fun i => if i < t + 1 then ck J (pw i - sq) l else [])) := HT.out.congr fun i _ => by
       by_cases h1 : i = t
       ·subst h1; rw [if_neg (by omega), if_pos (by omega), ← HQP.out]; exact HX.out.symm
       ·by_cases h2 : i < t
        ·rw [if_pos h2, if_pos (by omega)]; exact Sim.refl _
        ·rw [if_neg h2, if_neg (by omega)]; exact Sim.refl _
      clear HT HX
      go_wp2
      go_roundw
      case rel => exact ⟨t + 1, by have := HTL.out; omega, by go_num, HF, HMB, HEI⟩
      case measure => have := HTL.out; simp [intOf]; omega
    ·obtain rfl : t = N := by omega
     have hge : ¬ (t : Int) < (t : Int) := by omega
     have HEA := Lib.hid ((Ext.refl wr).alloc (.cells #[.slice (some ⟨gr, 0, none⟩) t t] 31))
     have hO5 := (HO.out.ext HEI.out).ext HEA.out
     have hB5 := Blk.of_arr wr #[.slice (some ⟨gr, 0, none⟩) t t] 31 1 rfl
     have HONE := Lib.hid (one_mrow gr t t)
     have HLK := Lib.hid (HO.out.lt)
     have HVN : Hid ((Value.slice va k vc).ownBlock ≠ some gr) := fun h => by have := (HO.out.lt gr h).2; have := HGR.out; omega
     have HGB : Hid (w.heap.size ≤ gr) := by have := HGR.out; have := HER.out.size; show w.heap.size ≤ gr; omega
     have hbase : w.heap.size ≤ wr.heap.size := Nat.le_trans HER.out.size HEI.out.size
     have HKK : Hid (KidC (MR M (.slice va k vc)) (wr.alloc (.cells #[.slice (some ⟨gr, 0, none⟩) t t] 31)) gr t t (fun i => ck J (pw i - sh k) l)) := KidC.of (((HT.out.congr fun i hi => by rw [if_pos hi, HSQ.out]; exact Sim.refl _).more fun b hb => .inl (HMQ.out b hb)).ext HEA.out) hNN
     have HGG : Hid (MatG M (wr.alloc (.cells #[.slice (some ⟨gr, 0, none⟩) t t] 31)) w.heap.size (.slice va k vc) k t (fun k i => ck J (pw i - sh k) l) gs cs) := fun q hq => ⟨(HG.out q hq).1, (HG.out q hq).2.1, ((HG.out q hq).2.2.ext HEI.out).ext HEA.out⟩
     have HEW := Lib.hid ((HER.out.trans HEI.out).trans HEA.out)
     have hkS : k < S := HLT.out
     clear HT HMB HEI HG HO HER
     go_wp2_with (at_builtin; refine wpList_append_fn _ rfl (.tmp 50) (.tmp 52) _ rfl w.heap.size 31 j0 _ 1 24 Tryz.underlying36 ji jz0 jz1 jz2 rfl (by omega) (.slice va k vc) k (rwf gs cs t) rfl hO5 wr.heap.size 31 1 (arr #[.slice (some ⟨gr, 0, none⟩) t t]) rfl hB5 HONE.out ?s1 ?s2 ?s3 ?_)
     case s1 => unfold maxLen; omega
     case s2 => omega
     case s3 => first | omega | (simp; omega)
     intro gg cap2 w6 hO6 hg6 hat hlt6
     replace hat : (Value.slice va k vc).ownBlock = some gg ∨ (wr.alloc (.cells #[.slice (some ⟨gr, 0, none⟩) t t] 31)).heap.size ≤ gg := by rw [World.size_alloc]; exact hat
     have HF : Hid (Mat M w6 w.heap.size (.slice (some ⟨gg, 0, none⟩) (k + 1) cap2) (k + 1) t (fun k i => ck J (pw i - sh k) l) ∧ Ext w w6) := ⟨Mat.push HGG.out hO6 HKK.out HVN.out HGB.out hg6 hat, HEW.out.grown hg6 fun q hq => (HLK.out q hq).1⟩
     clear hO6 hg6 hat hO5 hB5 HKK HGG HEW
     go_wp2
     go_roundw
     case rel => exact ⟨k + 1, by omega, by go_num, HF.out.1, HF.out.2⟩
     case measure => simp [intOf]; omega
  ·obtain rfl : k = S := by omega
   have HF : Hid (RetRw M w k N (fun k i => ck J (pw i - sh k) l) (.returned (.slice va k vc)) wr) := ⟨va, vc, rfl, ⟨gs, cs, hO, HNIL.out, hG⟩, HER.out⟩
   have hge : ¬ (k : Int) < (k : Int) := by omega
   clear hO hG HMt HER
   go_wp2
   exact bodyPost_ret (v := .slice va k vc) (by simp [results, Tryz.results47, go_sem]) rfl HF.out
end Go.Proofs.YtpclggidcmmemaaGreat

namespace Go.Proofs.YtpclggidcmmemaaGreat
open Go.RowKit

theorem rwf_app2 (gs hs cs ds : Nat → Nat) (N c d j : Nat) (hj : j < (c + d) * 1) : app (rwf gs cs N) c (rwf hs ds N) j = rwf (fun k => if k < c then gs k else hs (k - c)) (fun k => if k < c then cs k else ds (k - c)) N j := by
 unfold app rwf
 by_cases h : j < c
 ·rw [if_pos h]; simp only [if_pos h]
 ·rw [if_neg h]; simp only [if_neg h]
theorem wpList_append_mat (w : World) {ops : Array Oper} {rest : List Oper} {o : Oper} {a : Act} {Q : Exit → Act → World → Prop} (hgd : o.guard = none) (s x : Operand) (t : TypeId) (ht : Tryz.prog.underlying t = some (.slice 31))
  (ho : o.op = .call { callee := .builtin .append, args := #[s, x], argTypes := #[t, t] })
  (M : Nat → Prop) (base base2 : Nat) (v xv : Value) (S1 S2 N : Nat) (P1 P2 : Nat → Nat → List Tm) (hs : a.eval s = v) (hx : a.eval x = xv) (h1 : Mat M w base v S1 N P1) (h2 : Mat (MR M v) w base2 xv S2 N P2) (hb : base ≤ base2) (hlt : ∀ g, v.ownBlock = some g → g < base2) (hb2 : base2 ≤ w.heap.size) (hS : S1 + S2 ≤ 10000)
  (h : ∀ a' cap w', Mat M w' base (.slice a' (S1 + S2) cap) (S1 + S2) N (fun k => if k < S1 then P1 k else P2 (k - S1)) → w.grownBy w' v.ownBlock → wpList Tryz.prog ops Q rest (a.put o.dst (.slice a' (S1 + S2) cap)) w') :
  wpList Tryz.prog ops Q (o :: rest) a w := by
 obtain ⟨j0, ji, jz0, jz1, jz2⟩ := info_parts Tryz.info31
 obtain ⟨gs, cs, hO, hn1, hG⟩ := h1
 obtain ⟨hs', ds, hO2, hn2, hG2⟩ := h2
 by_cases h0 : S2 = 0
 ·subst h0
  obtain rfl := hn2 rfl
  obtain ⟨va, vc, rfl⟩ := hO.form
  refine wpList_append_own_none hgd s x t ho base _ j0 1 ht ji _ S1 (rowL (rwf gs cs N) (S1 * 1)) hs hO.toRow hx (h va vc w ⟨gs, cs, hO, hn1, fun k hk => ?_⟩ (World.grownBy.refl w _))
  have hk : k < S1 := hk
  have := hG k hk
  simp only [if_pos hk]
  exact this
 ·obtain ⟨q, c, F, rfl, hq, hB, hqc, hqm, hF⟩ := hO2.some (by omega)
  refine wpList_append_lies w hgd s x t ho base _ j0 _ 1 24 ht ji jz0 jz1 jz2 rfl (by omega) v S1 (rowL (rwf gs cs N) (S1 * 1)) hs hO.toRow ⟨q, 0, none⟩ S2 c (rowL (rwf hs' ds N) (S2 * 1)) hx (by rw [rowL_len]) ?_ ?_ (by omega) (by unfold maxLen; omega) (by omega) (Nat.le_trans hb hb2) w.heap.size rfl ?_
  ·intro j u hu
   have hj : j < S2 * 1 := by
    have := (List.getElem?_eq_some_iff.1 hu).1
    simpa [rowL_len] using this
   rw [rowL_get _ _ _ hj] at hu
   cases hu
   rw [addr_add, Nat.zero_add, hB.cell (by omega), hF j hj]
  ·intro u hu
   simp only [rowL, List.mem_map, List.mem_range] at hu
   obtain ⟨j, hj, rfl⟩ := hu
   rfl
  ·intro g cap w' hrow hg hat hgl
   rw [rowL_app, show S1 * 1 + S2 * 1 = (S1 + S2) * 1 from by omega] at hrow
   have hat2 : v.ownBlock = some g ∨ w.heap.size ≤ g := hat.imp id fun e => by omega
   have hne : ∀ q, q < w.heap.size → v.ownBlock ≠ some q → (Value.slice (some ⟨g, 0, none⟩) (S1 + S2) cap).ownBlock ≠ some q := fun q hq h1 h2 => by
    simp only [Value.ownBlock, Option.some.injEq] at h2
    rcases hat2 with h3 | h3
    ·exact h1 (by rw [h3, h2])
    ·omega
   refine h (some ⟨g, 0, none⟩) cap w' ⟨fun k => if k < S1 then gs k else hs' (k - S1), fun k => if k < S1 then cs k else ds (k - S1), (Own.ofRow hrow).congr fun j hj => ?_, fun h => by omega, fun k hk => ?_⟩ hg
   ·rw [Nat.mul_one]; exact rwf_app2 _ _ _ _ _ _ S2 _ hj
   ·by_cases hk1 : k < S1
    ·have h3 := hG k hk1
     show base ≤ (if k < S1 then gs k else hs' (k - S1)) ∧ _ ≠ some (if k < S1 then gs k else hs' (k - S1)) ∧ KidC _ _ (if k < S1 then gs k else hs' (k - S1)) _ (if k < S1 then cs k else ds (k - S1)) (if k < S1 then P1 k else P2 (k - S1))
     rw [if_pos hk1, if_pos hk1, if_pos hk1]
     exact ⟨h3.1, hne _ h3.2.2.lt h3.2.1, h3.2.2.grown h3.2.1 hg hat2⟩
    ·have h3 := hG2 (k - S1) (by omega)
     have h4 : v.ownBlock ≠ some (hs' (k - S1)) := fun e => by have := hlt _ e; have := h3.1; omega
     show base ≤ (if k < S1 then gs k else hs' (k - S1)) ∧ _ ≠ some (if k < S1 then gs k else hs' (k - S1)) ∧ KidC _ _ (if k < S1 then gs k else hs' (k - S1)) _ (if k < S1 then cs k else ds (k - S1)) (if k < S1 then P1 k else P2 (k - S1))
     rw [if_neg hk1, if_neg hk1, if_neg hk1]
     exact ⟨Nat.le_trans hb h3.1, hne _ h3.2.2.lt h4, (h3.2.2.more (M' := MR M v) fun b hb => .inl (.inl hb)).grown h4 hg hat2⟩
end Go.Proofs.YtpclggidcmmemaaGreat
