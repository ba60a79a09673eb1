/- The last step of every law that returns true and leaves its arguments: a general law. Arguments of the type []Node, opened. -/
import Derived.Test.YtjcceddloogiiaaGreatMa
import Derived.Test.YtjcceddloogiiaaGreatRows
import Derived.WalkKit
import Derived.ProofKit
import Derived.OpenShut
import Derived.Below
import Derived.Carry
import Derived.ChangeSame
import Derived.Deep.Slices
import Derived.Deep.Fields
import Derived.Test.YtjcceddloogiiaaGreatMj
import Derived.Deep.Strs
set_option linter.unusedVariables false
set_option linter.unusedSimpArgs false

namespace Go.Proofs.YtjcceddloogiiaaGreat
open Go.ChangeShapes Go.WideShapes Go.ChangeAt Go.RowKit Go.Deep

section
variable {H : Type} {enc : TypeId × Value → H}
theorem all_stay {W W' : World} (he : Ext W W') {sp : Nat → Bool} (hl : laidOutB Tryz.prog = true) : ∀ {ts : List TypeId} {vs : List Value} {ds : List (DataW H)} {ps : List MemPlace},
  (∀ t ∈ ts, Tryz.prog.readableRec t = true ∧ t < Tryz.prog.types.size) → DataW.TrodAll enc Tryz.prog W 0 (fun _ => true) true ts vs ds ps → (∀ p ∈ ps, p.block < W.heap.size ∧ sp p.block = true) → DataW.TrodAll enc Tryz.prog W' 0 sp true ts vs ds ps
 | [], _, _, _, _, h, _ => by
  obtain ⟨rfl, rfl, rfl⟩ := trodAll_nil h
  rfl
 | t :: ts, _, _, _, hr, h, hp => by
  obtain ⟨v, vs, d, ds, p, q, rfl, rfl, rfl, h1, h2⟩ := trodAll_cons h
  have ht := hr t (List.mem_cons_self ..)
  refine ⟨p, q, WideElems.Trod_stays hl ht.1 ht.2 h1 (fun x hx => Below.same he (hp x (List.mem_append_left _ hx)).1) (fun x hx => (hp x (List.mem_append_left _ hx)).2), all_stay he hl (fun t' h' => hr t' (List.mem_cons_of_mem _ h')) h2 (fun x hx => hp x (List.mem_append_right _ hx)), rfl⟩
set_option maxRecDepth 10000 in
theorem post_true {f : Func} {s : ChangeSpec} {apart fresh handsOn again : Bool} {W W' : World} {args : Array Value} {ds : List (DataW H)} {before : List MemPlace} {tb : TypeId}
  (hl : laidOutB Tryz.prog = true) (hr : ∀ t ∈ f.params.toList, Tryz.prog.readableRec t = true ∧ t < Tryz.prog.types.size) (hv : s.vars = []) (hs : s.fn H ds = { results := [.lit (.bool true)], args := ds })
  (hR : f.resultTypes = #[tb]) (htb : Tryz.prog.underlying tb = some .bool) (hW : DataW.Whole enc Tryz.prog f.params.toList s.vars apart W args.toList ds [] before) (he : Ext W W') :
  s.post enc Tryz.prog f apart fresh handsOn again W args (.bool true) W' := by
 have hlt : ∀ p ∈ before, p.block < W.heap.size := fun p hp => hW.lt p hp
 have hW' := hW
 obtain ⟨pa, pv, hA, hV, hps, hz, hn⟩ := hW
 rw [hv] at hV
 obtain rfl : pv = [] := hV
 rw [List.append_nil] at hps
 subst hps
 have hfn : s.fn H (ds ++ []) = { results := [.lit (.bool true)], args := ds } := by rw [List.append_nil]; exact hs
 have hst : ∀ sp : Nat → Bool, (∀ p ∈ before, sp p.block = true) → DataW.TrodAll enc Tryz.prog W' 0 sp true f.params.toList args.toList ds before := fun sp hsp => all_stay he hl hr hA fun p hp => ⟨hlt p hp, hsp p hp⟩
 have hres : ∀ (b : Nat) (sp : Nat → Bool) (hd : Bool), DataW.TrodAll enc Tryz.prog W' b sp hd f.resultTypes.toList ((Value.bool true).resultList f.resultTypes.size) [.lit (.bool true)] [] := by
  intro b sp hd
  rw [hR]
  exact ⟨[], [], shut_bool htb true, rfl, rfl⟩
 refine ⟨ds, [], before, [], before, [], hW', by rw [hfn]; exact hres _ _ _, by rw [hfn]; exact hst _ (fun p hp => by simpa using hlt p hp), by rw [hfn, hv]; rfl, World.keptBut_mono (fun p hp => ⟨hp, .inr (.inl hp)⟩) (Below.frame he (· ∈ before)), fun _ => ?_⟩
 refine ⟨ok_one hR rfl (okWide_bool_mk htb true), _, [], ([] ++ before) ++ [], ⟨[] ++ before, [], trodAll_append (hst _ (fun _ _ => rfl)) (hres _ _ _), by rw [hv]; rfl, rfl, ?_, ?_⟩, ?_⟩
 ·intro b off hp
  have hin : MemPlace.cell b off ∈ before := by simpa using hp
  rw [Below.frozen he (hlt _ hin)]
  exact hz b off hin
 ·intro ha
  simpa using hn ha
 ·intro p hp _
  simpa using hp
end
end Go.Proofs.YtjcceddloogiiaaGreat

namespace Go.Proofs.YtjcceddloogiiaaGreat
open Go.ChangeShapes Go.WideShapes Go.ChangeAt Go.RowKit Go.Deep

theorem nodes_cells {H : Type} {enc : TypeId × Value → H} {W : World} {n : Nat} {a : Addr} {k : Nat} {x : DataW H × List MemPlace} {cs' : List Value} (h1 : W.cells? 0 (a.add (k * 3)) 3 = some cs') (h2 : DataW.trod enc Tryz.prog W 0 (fun _ => true) true n 202 cs' = some x) :
  ∃ L C K : Int, (k = 0 → a.spot = none) ∧ a.block < W.heap.size ∧ W.cell? ⟨a.block, a.off + k * 3, none⟩ = some (.int .i8 L) ∧ W.cell? ⟨a.block, a.off + k * 3 + 1, none⟩ = some (.int .i16 C) ∧ W.cell? ⟨a.block, a.off + k * 3 + 2, none⟩ = some (.int .u8 K) ∧
   (-128 ≤ L ∧ L ≤ 127) ∧ (-32768 ≤ C ∧ C ≤ 32767) ∧ (0 ≤ K ∧ K ≤ 255) := by
 obtain ⟨_, hlen, hat⟩ := World.cells?_some h1
 match cs', hlen with
 | [u0, u1, u2], _ =>
  have c0 : W.cell? (a.add (k * 3)) = some u0 := hat 0 (by omega)
  have c1 : W.cell? ((a.add (k * 3)).add 1) = some u1 := hat 1 (by omega)
  have c2 : W.cell? ((a.add (k * 3)).add 2) = some u2 := hat 2 (by omega)
  obtain ⟨y0, y1, y2, q, _, _, e0, e1, e2⟩ := trod_struct3 Tryz.underlying202 h2
  rw [show Tryz.prog.cellsOf 200 = 1 by kernel_rfl] at e0
  rw [show Tryz.prog.cellsOf 63 = 1 by kernel_rfl] at e1
  rw [show Tryz.prog.cellsOf 5 = 1 by kernel_rfl] at e2
  obtain ⟨L, hL, _, wL⟩ := DataW.trod_int Tryz.underlying200 e0
  obtain ⟨C, hC, _, wC⟩ := DataW.trod_int Tryz.underlying63 e1
  obtain ⟨K, hK, _, wK⟩ := DataW.trod_int Tryz.underlying5 e2
  simp at hL hC hK
  subst hL; subst hC; subst hK
  have hblk : a.block < W.heap.size := by
   have h5 := World.block_lt_of_cell? _ _ c0
   unfold Addr.add at h5
   split at h5 <;> exact h5
  have hsp : k = 0 → a.spot = none := by
   rintro rfl
   exact World.cell?_spot c0
  have hA0 : a.add (k * 3) = ⟨a.block, a.off + k * 3, none⟩ := by
   obtain ⟨b, o, s⟩ := a
   unfold Addr.add
   split
   ·rename_i hk0
    rw [show s = none from hsp (by omega)]
    simp only [Addr.mk.injEq, true_and, and_true]; omega
   ·rfl
  rw [hA0] at c0 c1 c2
  simp [Lit.wf, IntKind.min, IntKind.max, IntKind.signed, IntKind.bits] at wL wC wK
  exact ⟨L, C, K, hsp, hblk, c0, c1, c2, wL, wC, wK⟩
set_option linter.constructorNameAsVariable false in
set_option maxRecDepth 10000 in
theorem open_nodes {H : Type} {enc : TypeId × Value → H} {W : World} {base : Nat} {v : Value} {d : DataW H} {ps : List MemPlace} (hv : Value.okWide Tryz.prog W .any base 54 v) (h : DataW.Trod enc Tryz.prog W 0 (fun _ => true) true 54 v d ps) : ∃ a n c, v = .slice a n c ∧ (n ≤ 24 → ∃ L C K, NodesR M0 W (.slice a n c) n L C K) := by
 obtain ⟨fuel, h⟩ := h
 have hu : Tryz.prog.underlying 54 = some (.slice 202) := Tryz.underlying54
 have hc3 : Tryz.prog.cellsOf 202 = 3 := by kernel_rfl
 have hv1 : v.cells.toList = [v] := by
  obtain ⟨a, n, c, rfl⟩ := okWide_slice hu hv
  rfl
 rw [hv1] at h
 rcases open_slice hu h with ⟨h0, _⟩ | ⟨a, len, cap, m, n, D, Pl, hcs, hb, hl, hm, hmm, _, hi⟩
 ·simp only [List.cons.injEq, and_true] at h0
  exact ⟨none, 0, 0, h0, fun _ => ⟨fun _ => 0, fun _ => 0, fun _ => 0, Nat.zero_le _, .inl ⟨rfl, none, 0, rfl⟩⟩⟩
 ·simp only [List.cons.injEq, and_true] at hcs
  refine ⟨some a, len, cap, hcs, fun h24 => ?_⟩
  have hm2 : len ≤ m := by rw [hmm, if_pos rfl]; exact hl
  rw [hc3] at hi
  have hall : ∀ i, ∃ L C K : Int, i < len → (i = 0 → a.spot = none) ∧ a.block < W.heap.size ∧ W.cell? ⟨a.block, a.off + i * 3, none⟩ = some (.int .i8 L) ∧ W.cell? ⟨a.block, a.off + i * 3 + 1, none⟩ = some (.int .i16 C) ∧ W.cell? ⟨a.block, a.off + i * 3 + 2, none⟩ = some (.int .u8 K) ∧
   (-128 ≤ L ∧ L ≤ 127) ∧ (-32768 ≤ C ∧ C ≤ 32767) ∧ (0 ≤ K ∧ K ≤ 255) := by
   intro i
   by_cases hil : i < len
   ·obtain ⟨cs', h1, h2⟩ := hi i (by omega)
    obtain ⟨L, C, K, h3⟩ := nodes_cells h1 h2
    exact ⟨L, C, K, fun _ => h3⟩
   ·exact ⟨0, 0, 0, fun h => absurd h hil⟩
  refine ⟨fun i => (hall i).choose, fun i => (hall i).choose_spec.choose, fun i => (hall i).choose_spec.choose_spec.choose, by omega, ?_⟩
  have hspec := fun i => (hall i).choose_spec.choose_spec.choose_spec
  rcases Nat.eq_zero_or_pos len with h0 | h0
  ·subst h0; exact .inl ⟨rfl, _, _, rfl⟩
  ·obtain ⟨hs0, hb0, _⟩ := hspec 0 h0
   refine .inr ⟨a.block, a.off, cap, ?_, hl, hm, ⟨hb0, fun h => h⟩, fun i hi' => (hspec i hi').2.2⟩
   obtain ⟨b, o, s⟩ := a
   have hs1 := hs0 rfl
   simp only at hs1
   rw [hs1]

end Go.Proofs.YtjcceddloogiiaaGreat
