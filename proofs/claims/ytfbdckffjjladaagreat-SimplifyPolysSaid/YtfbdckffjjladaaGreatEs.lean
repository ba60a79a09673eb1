/- Draws are never taken back: a call ends with at least as many draws as it began with. -/
import Derived.Test.YtfbdckffjjladaaGreatRows
import Derived.Calls
set_option linter.unusedVariables false
set_option linter.unusedSimpArgs false

namespace Go.Proofs.YtfbdckffjjladaaGreat

def Dr {α : Type} (d : Nat) : Result α → Prop
 | .ok _ w => d ≤ w.drawn
 | .halt _ w => d ≤ w.drawn
theorem Dr.mono {α : Type} {d d' : Nat} {r : Result α} (h : Dr d r) (hd : d' ≤ d) : Dr d' r := by
 cases r <;> exact Nat.le_trans hd h
theorem drawn_freeze (w : World) (a : Addr) (n : Nat) : (w.freeze a n).drawn = w.drawn := by
 unfold World.freeze; split <;> rfl
theorem drawn_ask {α : Type} : ∀ (k : Ask α) (w : World), w.drawn ≤ (w.ask k).2.drawn := by
 intro k
 induction k with
 | done a => intro w; simp [World.ask]
 | ask what range k ih =>
  intro w
  rw [World.ask]
  split
  ·exact ih _ _
  ·exact Nat.le_trans (Nat.le_succ _) (ih _ { w with drawn := w.drawn + 1 })
theorem drawn_sys (w : World) (c : Sys) : w.drawn ≤ (w.sys c).2.drawn := by
 have h := drawn_ask (Kernel.perform c w.os) w
 unfold World.sys
 generalize w.ask (Kernel.perform c w.os) = X at *
 obtain ⟨⟨r, os⟩, w'⟩ := X
 dsimp only at h ⊢
 split
 ·exact Nat.le_refl _
 ·rename_i heq
  cases heq
  exact h
theorem drawn_farStore {p : Program} {w w' : World} {a : Addr} {v : Value} {b : Bool} {l : List Addr} (h : w.farStore p a v b = .ok (w', l)) : w'.drawn = w.drawn := by
 unfold World.farStore at h
 split at h
 ·split at h
  ·rename_i h2
   cases h
   unfold World.viewStore at h2
   simp only [bind, Except.bind, pure, Except.pure] at h2
   repeat' (split at h2)
   all_goals first | (cases h2; done) | (cases h2; rfl) | skip
  ·cases h
 ·cases h
theorem run_dr (p : Program) {α : Type} : ∀ (m : Sem α) (w : World), Dr w.drawn (m.run p w) := by
 intro m
 induction m with
 | pure a => intro w; exact Nat.le_refl _
 | load m a k ih =>
  intro w; unfold Sem.run; split
  ·exact ih _ _
  ·split
   ·exact ih _ _
   ·exact Nat.le_refl _
 | store m a v k ih =>
  intro w
  have key : Dr w.drawn (match w.cell? a with
   | some _ => if w.frozen? a then .halt (.unsupported (.unsafePointer "a write to bytes that a string shares")) w else k.run p (w.setCell a v)
   | none => match w.farStore p a v (m == .atomic) with
    | .ok (w, _) => k.run p w
    | .error h => .halt h w) := by
   split
   ·split
    ·exact Nat.le_refl _
    ·exact ih (w.setCell a v)
   ·split
    ·rename_i h; have h2 := drawn_farStore h; rw [← h2]; exact ih _
    ·exact Nat.le_refl _
  cases v <;> first | exact key | exact Nat.le_refl _
 | new o k ih => intro w; exact ih _ { w with heap := w.heap.push o }
 | shape r k ih => intro w; exact ih _ _
 | freeze a n k ih => intro w; have := ih (w.freeze a n); rw [drawn_freeze] at this; exact this
 | frozen a k ih => intro w; exact ih _ _
 | getObj r k ih =>
  intro w; unfold Sem.run; split
  ·exact Nat.le_refl _
  ·exact ih _ _
  ·exact Nat.le_refl _
 | setObj r o k ih =>
  intro w; unfold Sem.run; split
  ·exact Nat.le_refl _
  ·exact ih { w with heap := w.heap.setIfInBounds r o }
  ·exact Nat.le_refl _
 | choose q k ih =>
  intro w; unfold Sem.run; split
  ·exact ih _ _
  ·exact (ih _ { w with drawn := w.drawn + 1 }).mono (Nat.le_succ _)
 | sys c k ih => intro w; exact (ih _ _).mono (drawn_sys w c)
 | program k ih => intro w; exact ih _ _
 | mark m k ih => intro w; exact ih _
 | halt h => intro w; exact Nat.le_refl _
theorem runT_dr (p : Program) {α : Type} : ∀ (m : Sem α) (w : World) (es : Array Event), Dr w.drawn (m.runT p w es).1 := by
 intro m
 induction m with
 | pure a => intro w es; exact Nat.le_refl _
 | load m a k ih =>
  intro w es; unfold Sem.runT; split
  ·exact ih _ _ _
  ·split
   ·exact ih _ _ _
   ·exact Nat.le_refl _
 | store m a v k ih =>
  intro w es
  have key : Dr w.drawn (show Result α × Array Event from match w.cell? a with
   | some _ =>
    if w.frozen? a then (.halt (.unsupported (.unsafePointer "a write to bytes that a string shares")) w, es)
    else k.runT p (w.setCell a v) (es.push ⟨.cell a, true, m == .atomic⟩)
   | none => match w.farStore p a v (m == .atomic) with
    | .ok (w, touched) => k.runT p w (es ++ touched.toArray.map (⟨.cell ·, true, m == .atomic⟩))
    | .error h => (.halt h w, es)).1 := by
   split
   ·split
    ·exact Nat.le_refl _
    ·exact ih (w.setCell a v) _
   ·split
    ·rename_i h; have h2 := drawn_farStore h; rw [← h2]; exact ih _ _
    ·exact Nat.le_refl _
  cases v <;> first | exact key | exact Nat.le_refl _
 | new o k ih => intro w es; exact ih _ { w with heap := w.heap.push o } _
 | shape r k ih => intro w es; exact ih _ _ _
 | freeze a n k ih => intro w es; have := ih (w.freeze a n) es; rw [drawn_freeze] at this; exact this
 | frozen a k ih => intro w es; exact ih _ _ _
 | getObj r k ih =>
  intro w es; unfold Sem.runT; split
  ·exact Nat.le_refl _
  ·exact ih _ _ _
  ·exact Nat.le_refl _
 | setObj r o k ih =>
  intro w es; unfold Sem.runT; split
  ·exact Nat.le_refl _
  ·exact ih { w with heap := w.heap.setIfInBounds r o } _
  ·exact Nat.le_refl _
 | choose q k ih =>
  intro w es; unfold Sem.runT; split
  ·exact ih _ _ _
  ·exact (ih _ { w with drawn := w.drawn + 1 } _).mono (Nat.le_succ _)
 | sys c k ih => intro w es; exact (ih _ _ _).mono (drawn_sys w c)
 | program k ih => intro w es; exact ih _ _ _
 | mark m k ih => intro w es; exact ih _ _
 | halt h => intro w es; exact Nat.le_refl _

theorem dr_of {p : Program} {α : Type} {m : Sem α} {w : World} {r : Result α} (h : m.run p w = r) : Dr w.drawn r := h ▸ run_dr p m w
theorem dr_ofT {p : Program} {α : Type} {m : Sem α} {w : World} {es es' : Array Event} {r : Result α} (h : m.runT p w es = (r, es')) : Dr w.drawn r := by
 have := runT_dr p m w es
 rw [h] at this
 exact this
def GD (d : Nat) : GStep → Prop
 | .go _ w _ | .comm _ _ _ _ w _ | .spawn _ _ w _ | .count _ w _ | .timer _ _ w _ | .alone _ _ w _ | .newcoro _ _ _ w _ | .coroswitch _ _ _ w _ | .collect _ w _ | .watch _ w _ => d ≤ w.drawn
 | .ended .. => True
theorem GD.after {d : Nat} {es : Array Event} {s : GStep} (h : GD d s) : GD d (s.after es) := by cases s <;> exact h
theorem doReturn_gd {p : Program} {main : Bool} {fr : Frame} {cs : List Frame} {dy : Option Dying} {v : Value} {w : World} {d : Nat} (h : d ≤ w.drawn) : GD d (doReturn p main fr cs dy v w) := by
 unfold doReturn
 repeat' split
 all_goals first | exact h | trivial
theorem dieOf_gd {fr : Frame} {l : List ByteArray} {m : String} {b : Bool} {w : World} {d : Nat} (h : d ≤ w.drawn) : GD d (dieOf fr l m b w) := h
theorem endThrow_gd {fr : Frame} {m : String} {w : World} {d : Nat} (h : d ≤ w.drawn) : GD d (endThrow fr m w) := h
theorem endWith_gd {w : World} {fd : Nat} {t : ByteArray} {o : Outcome} {d : Nat} : GD d (endWith w fd t o) := by
 unfold endWith
 dsimp only
 repeat' split
 all_goals trivial
theorem endPrinting_gd {p : Program} {fr : Frame} {v : Value} {w : World} {d : Nat} (h : d ≤ w.drawn) : GD d (endPrinting p fr v w) := by
 unfold endPrinting
 dsimp only
 split
 ·exact endThrow_gd h
 ·trivial
theorem endFatal_gd {p : Program} {fr : Frame} {cs : List Frame} {dy : Option Dying} {m : String} {w : World} {d : Nat} (h : d ≤ w.drawn) : GD d (endFatal p fr cs dy m w) := by
 unfold endFatal
 dsimp only
 split
 ·rename_i heq
  have h2 := dr_of heq
  exact dieOf_gd (Nat.le_trans h h2)
 ·trivial
 ·trivial
theorem writeOn_gd {p : Program} {fr : Frame} {dd : Dying} {f : Fatal} {w : World} {d : Nat} (h : d ≤ w.drawn) : GD d (writeOn p fr dd f w) := by
 unfold writeOn
 dsimp only
 split
 ·trivial
 ·split
  all_goals rename_i heq
  all_goals have h2 := dr_ofT heq
  all_goals first | exact Nat.le_trans h h2 | trivial
theorem ite_gd {c : Prop} [Decidable c] {d : Nat} {a b : GStep} (ha : GD d a) (hb : GD d b) : GD d (if c then a else b) := by split <;> assumption
theorem die_gd {p : Program} {fr : Frame} {dd : Dying} {w : World} {d : Nat} (h : d ≤ w.drawn) : GD d (die p fr dd w) := by
 unfold die
 split
 ·exact writeOn_gd h
 ·split
  ·split
   ·exact h
   ·exact endWith_gd
  ·dsimp only
   split
   ·exact h
   ·split
    ·rename_i heq
     exact Nat.le_trans h (dr_of heq)
    ·trivial
   ·rename_i t recv name _
    have h2 := runT_dr p (invoke (.fn (.method name) #[]) #[.iface t recv]) w #[]
    generalize Sem.runT p (invoke (.fn (.method name) #[]) #[.iface t recv]) w #[] = X at h2 ⊢
    obtain ⟨r, es⟩ := X
    refine GD.after ?_
    dsimp only at h2 ⊢
    split
    all_goals first | trivial | exact Nat.le_trans h h2 | exact endPrinting_gd (Nat.le_trans h h2)
   ·trivial
theorem callDeferred_gd {p : Program} {fr : Frame} {cs : List Frame} {dy : Option Dying} {dd : Deferred} {w : World} {d : Nat} (h : d ≤ w.drawn) : GD d (callDeferred p fr cs dy dd w) := by
 unfold callDeferred
 refine ite_gd trivial ?_
 have h2 := runT_dr p (invoke dd.target dd.args) w #[]
 generalize Sem.runT p (invoke dd.target dd.args) w #[] = X at h2 ⊢
 obtain ⟨r, es⟩ := X
 refine GD.after ?_
 dsimp only at h2 ⊢
 split
 all_goals first | trivial | exact Nat.le_trans h h2 | exact endFatal_gd (Nat.le_trans h h2) | exact endThrow_gd (Nat.le_trans h h2) | (split <;> exact Nat.le_trans h h2)
theorem unwind_gd {p : Program} {main : Bool} {fr : Frame} {cs : List Frame} {dy : Option Dying} {w : World} {d : Nat} (h : d ≤ w.drawn) : GD d (unwind p main fr cs dy w) := by
 unfold unwind
 split
 ·rename_i block _ _ _
  have h2 := runT_dr p (Instr.takeDeferred block) w #[]
  generalize Sem.runT p (Instr.takeDeferred block) w #[] = X at h2 ⊢
  obtain ⟨r, es⟩ := X
  refine GD.after ?_
  dsimp only at h2 ⊢
  split
  ·exact Nat.le_trans h h2
  ·trivial
 ·exact callDeferred_gd h
 ·split
  ·trivial
  ·split
   ·trivial
   ·split
    ·exact h
    ·split
     ·split
      ·exact h
      ·split
       ·rename_i heq
        exact Nat.le_trans h (dr_of heq)
       ·trivial
       ·trivial
     ·split
      ·exact endPrinting_gd h
      ·trivial
  ·split
   ·exact doReturn_gd h
   ·rename_i fn _
    have h2 := runT_dr p (results fn fr.tmps) w #[]
    generalize Sem.runT p (results fn fr.tmps) w #[] = X at h2 ⊢
    obtain ⟨r, es⟩ := X
    refine GD.after ?_
    dsimp only at h2 ⊢
    split
    ·exact doReturn_gd (Nat.le_trans h h2)
    ·trivial
    ·trivial
theorem early_gd {p : Program} {fr : Frame} {cs : List Frame} {dy : Option Dying} {g : Nat} {w : World} {d : Nat} (h : d ≤ w.drawn) : GD d (early p fr cs dy g w) := by
 have hn : ∀ w : World, d ≤ w.drawn → GD d (match w.heap[g]? with
  | some (.pending c elem) => .go { frame := fr, callers := cs, status := .running, dying := dy } { w with heap := w.heap.setIfInBounds g (.cells c elem) }
  | _ => .ended (.stuck "early: the variable does not wait" (fr.pos p)) w) := by
  intro w hw
  split
  ·exact hw
  ·trivial
 unfold early
 dsimp only
 refine ite_gd (hn _ h) ?_
 split
 ·trivial
 ·refine ite_gd (hn _ h) (ite_gd (hn _ h) ?_)
  split
  ·trivial
  ·exact h
  ·trivial
  ·exact hn _ h
  ·refine ite_gd h (ite_gd (hn _ h) ?_)
   split
   ·rename_i heq; exact hn _ (Nat.le_trans h (dr_of heq))
   ·rename_i heq; exact Nat.le_trans h (dr_of heq)
   ·trivial
theorem apply_gd {p : Program} {listen : Bool} {fr : Frame} {cs : List Frame} {dy : Option Dying} {s : Sem Next} {w : World} {d : Nat} (h : d ≤ w.drawn) : GD d (stepG.apply p listen fr cs dy s w) := by
 unfold stepG.apply
 have h2 : Dr w.drawn (if listen = true then s.runT p w #[] else (s.run p w, #[])).1 := by
  split
  ·exact runT_dr p s w #[]
  ·exact run_dr p s w
 generalize (if listen = true then s.runT p w #[] else (s.run p w, #[])) = X at h2 ⊢
 obtain ⟨r, es⟩ := X
 refine GD.after ?_
 dsimp only at h2 ⊢
 generalize (match fr.todo with
   | .call _ true _ _ :: _ => CallKind.wrapped
   | _ => CallKind.normal) = kd
 split
 all_goals first | trivial | exact Nat.le_trans h h2 | exact endFatal_gd (Nat.le_trans h h2) | exact endThrow_gd (Nat.le_trans h h2) | exact early_gd (Nat.le_trans h h2) | (split <;> exact Nat.le_trans h h2) | exact ite_gd (endThrow_gd (Nat.le_trans h h2)) (Nat.le_trans h h2)
theorem oper_gd {p : Program} {listen : Bool} {fr : Frame} {cs : List Frame} {dy : Option Dying} {w : World} {d : Nat} (h : d ≤ w.drawn) : GD d (stepG.oper p listen fr cs dy w) := by
 unfold stepG.oper
 split
 ·trivial
 ·split <;> exact apply_gd h
theorem leave_gd {p : Program} {main b : Bool} {fr fr' : Frame} {cs : List Frame} {dy : Option Dying} {w : World} {d : Nat} {jump : Option Code} {why why2 : Outcome} (h : d ≤ w.drawn) : GD d (match fr.roundOf with
   | none => if b = true then .go { frame := fr', callers := cs, status := .running, dying := dy } w else .ended why w
   | some l => GStep.after (seen p fr.fn (Sem.runT p (Instr.endRound l jump) w #[]).snd)
    (match (Sem.runT p (Instr.endRound l jump) w #[]).fst with
    | .ok v w => doReturn p main fr cs dy v w
    | .halt _ w => .ended why2 w)) := by
 split
 ·exact ite_gd h trivial
 ·rename_i l _
  have h2 := runT_dr p (Instr.endRound l jump) w #[]
  refine GD.after ?_
  generalize (Sem.runT p (Instr.endRound l jump) w #[]).fst = r at h2 ⊢
  split
  ·exact doReturn_gd (Nat.le_trans h h2)
  ·trivial
theorem exec_gd {p : Program} {main listen : Bool} {fr : Frame} {cs : List Frame} {dy : Option Dying} {w : World} {d : Nat} (h : d ≤ w.drawn) : GD d (stepG.exec p main listen fr cs dy w) := by
 unfold stepG.exec
 dsimp only
 split
 all_goals first | exact h | exact leave_gd h | trivial | exact apply_gd h | skip
 ·split <;> first | exact h | trivial
 ·rename_i id k _
  generalize exitTo id k = o
  cases o with
  | none => exact leave_gd h
  | some t => exact h
 ·rename_i l k _
  generalize gotoIn l k = o
  cases o with
  | none => exact leave_gd h
  | some t => exact h
 ·rename_i f params assign body k _
  have h2 := runT_dr p (Instr.enterLoop fr.fn fr.tmps params assign body fr.roundOf) w #[]
  refine GD.after ?_
  generalize (Sem.runT p (Instr.enterLoop fr.fn fr.tmps params assign body fr.roundOf) w #[]).fst = r at h2 ⊢
  split
  ·exact apply_gd (Nat.le_trans h h2)
  ·trivial
 ·rename_i l k _
  have h2 := runT_dr p (Instr.endLoop l) w #[]
  refine GD.after ?_
  generalize (Sem.runT p (Instr.endLoop l) w #[]).fst = r at h2 ⊢
  split
  ·exact Nat.le_trans h h2
  ·exact Nat.le_trans h h2
  ·trivial
 ·rename_i row args _ _
  generalize Extern.next row = o
  cases o with
  | none => trivial
  | some e => exact apply_gd h
 ·refine ite_gd h ?_
  split
  ·rename_i heq; exact Nat.le_trans h (dr_of heq)
  ·trivial
 ·exact ite_gd (oper_gd h) h
theorem stepG_gd {p : Program} {main listen : Bool} {g : Goroutine} {w : World} {d : Nat} (h : d ≤ w.drawn) : GD d (stepG p main g w listen) := by
 unfold stepG
 dsimp only
 split
 ·exact die_gd h
 ·exact exec_gd h
 ·exact unwind_gd h
def SD (d : Nat) : Stepped → Prop
 | .next m => d ≤ m.world.drawn
 | .ended .. => True
theorem look_sd {p : Program} {gs : Array Goroutine} {rest : Rest} {w : World} {d : Nat} (h : d ≤ w.drawn) : SD d (look p gs rest w) := by
 unfold look
 dsimp only
 split
 ·split
  ·trivial
  ·split
   ·trivial
   ·split
    ·rename_i heq; exact Nat.le_trans h (dr_of heq)
    ·trivial
    ·trivial
 ·trivial
theorem waitingAt_dr {rest : Rest} {cases : Array CommCase} {w w' : World} (h : waitingAt rest cases w = some w') : w'.drawn = w.drawn := by
 unfold waitingAt at h
 split at h
 ·split at h
  ·cases h; rfl
  ·cases h
 ·cases h; rfl
theorem communicate_sd {p : Program} {rest : Rest} {gs : Array Goroutine} {i : Nat} {g : Goroutine} {cases : Array CommCase} {bl : Bool} {shape : CommShape} {w : World} {d : Nat} (h : d ≤ w.drawn) : SD d (communicate p rest gs i g cases bl shape w).1 := by
 unfold communicate
 dsimp only
 split
 ·trivial
 ·split
  ·split
   ·split
    ·rename_i heq; rw [← waitingAt_dr heq] at h; exact h
    ·trivial
   ·exact h
  ·split
   ·trivial
   ·rename_i heq
    have h2 := Nat.le_trans h (dr_of heq)
    split
    ·split
     ·rename_i heq2; exact Nat.le_trans h2 (dr_of heq2)
     ·trivial
    ·exact h2
    ·exact h2
    ·split
     ·exact h2
     ·split
      ·rename_i heq2; exact Nat.le_trans h2 (dr_of heq2)
      ·trivial
    ·exact h2
    ·exact h2
    ·trivial
theorem serve_sd {p : Program} {m : Machine} {k : Nat} {d : Nat} (h : d ≤ m.world.drawn) : SD d (serve p m k) := by
 unfold serve
 split
 ·trivial
 ·exact h
 ·dsimp only
  split
  ·trivial
  ·exact h
theorem drain_dr (w : World) (c : Nat) : (drain w c).2.drawn = w.drawn := by
 unfold drain
 split <;> rfl
theorem retime_dr (m : Machine) (k : Nat) (t : Timer) (a b : Nat) : (retime m k t a b).2.world.drawn = m.world.drawn := by
 unfold retime
 dsimp only
 split
 ·exact drain_dr _ _
 ·rfl
theorem named_dr {m m' : Machine} {var : Addr} {f : Nat → Timer → Value × Machine} {v : Value} (hf : ∀ k t, (f k t).2.world.drawn = m.world.drawn) (h : timerOp.named m var f = .ok (v, m')) : m'.world.drawn = m.world.drawn := by
 unfold timerOp.named at h
 split at h
 ·rename_i k _
  have e := Except.ok.inj h
  have := hf k (m.rest.timers.getD k default)
  rw [e] at this
  exact this
 ·cases h
theorem timerOp_dr {m m' : Machine} {op : TimerOp} {v : Value} (h : timerOp m op = .ok (v, m')) : m'.world.drawn = m.world.drawn := by
 unfold timerOp at h
 split at h
 ·split at h
  ·cases h; rfl
  ·split at h
   ·split at h
    ·cases h
    ·cases h; rfl
   ·cases h
 ·exact named_dr (fun k t => retime_dr _ _ _ _ _) h
 ·split at h
  ·rename_i m2 heq
   refine named_dr (fun k t => ?_) h
   rw [retime_dr]
   unfold timerOp.opened at heq
   split at heq
   ·split at heq
    ·cases heq; rfl
    ·cases heq
   ·cases heq; rfl
  ·cases h
 ·cases h; rfl
theorem runT_sd {p : Program} {m : Machine} {i : Nat} {listen : Bool} {d : Nat} (h : d ≤ m.world.drawn) : SD d (runT p m i listen).1 := by
 unfold runT
 dsimp only
 have hg := stepG_gd (p := p) (main := i == 0) (listen := listen) (g := (m.gs.swapAt! i { (default : Goroutine) with status := .finished }).1) h
 generalize stepG p (i == 0) (m.gs.swapAt! i { (default : Goroutine) with status := .finished }).1 m.world listen = s at hg ⊢
 split
 ·trivial
 ·exact communicate_sd hg
 ·exact hg
 ·exact hg
 ·split
  ·trivial
  ·exact hg
 ·exact hg
 ·exact look_sd hg
 ·exact hg
 ·exact hg
 ·split
  ·exact hg
  ·exact hg
  ·trivial
 ·split
  ·rename_i heq
   have := timerOp_dr heq
   show d ≤ _
   dsimp only at this ⊢
   rw [this]
   exact hg
  ·exact hg
  ·trivial
  ·trivial
def MD (d : Nat) : Move → Prop
 | .goroutine m _ => d ≤ m.world.drawn
 | .machine s _ => SD d s
theorem pick_md {p : Program} {d n : Nat} {at_ : Nat → Nat} {r r2 : Nat → Nat → Rest} {gs : Array Goroutine} {w : World} {o o2 : Outcome} (h : d ≤ w.drawn) : MD d (match Sem.run p (choose (.sched n)) w with
   | .halt _ w => .machine (.ended o w)
   | .ok k world =>
    if n ≤ 1 then .goroutine { world, gs, rest := r k 0 } (at_ k) else
    match Sem.run p (choose (.extern "sched.slice" 65536)) world with
    | .halt _ w => .machine (.ended o2 w)
    | .ok s world => .goroutine { world, gs, rest := r2 k s } (at_ k)) := by
 split
 ·trivial
 ·rename_i heq
  have h2 := Nat.le_trans h (dr_of heq)
  split
  ·exact h2
  ·split
   ·trivial
   ·rename_i heq2; exact Nat.le_trans h2 (dr_of heq2)
theorem askOn_md {p : Program} {m : Machine} {d : Nat} (h : d ≤ m.world.drawn) : MD d (askOn p m) := by
 unfold askOn
 dsimp only
 split
 ·trivial
 ·rename_i k world heq
  have h2 : d ≤ world.drawn := Nat.le_trans h (dr_of heq)
  split
  ·exact serve_sd (m := { world := world, gs := m.gs, rest := m.rest }) h2
  ·split
   ·split
    ·exact h2
    ·split
     ·exact h2
     ·split
      ·trivial
      ·trivial
   ·split
    ·exact pick_md (r := fun _ _ => m.rest) (r2 := fun k n => { m.rest with slice := if n = 0 then none else some ((runnable m.gs m.world.os.mono).getD k 0, n) }) (at_ := fun k => (runnable m.gs m.world.os.mono).getD k 0) (o2 := .stuck "sched.slice" "") h2
    ·split
     ·trivial
     ·rename_i heq2
      exact pick_md (r := fun _ _ => m.rest) (r2 := fun k n => { m.rest with slice := if n = 0 then none else some ((runnable m.gs m.world.os.mono).getD k 0, n) }) (at_ := fun k => (runnable m.gs m.world.os.mono).getD k 0) (o2 := .stuck "sched.slice" "") (Nat.le_trans h2 (dr_of heq2))
     ·rename_i heq2
      exact Nat.le_trans h2 (dr_of heq2)
     ·rename_i k2 w2 heq2
      refine pick_md (r := fun _ _ => m.rest) (r2 := fun k n => { m.rest with slice := if n = 0 then none else some ((runnable m.gs m.world.os.mono).getD k 0, n) }) (at_ := fun k => (runnable m.gs m.world.os.mono).getD k 0) (o2 := .stuck "sched.slice" "") ?_
      exact Nat.le_trans h2 (dr_of heq2)
theorem ask_md {p : Program} {m : Machine} {d : Nat} (h : d ≤ m.world.drawn) : MD d (ask p m) := by
 unfold ask
 split
 ·split
  ·trivial
  ·rename_i heq
   have h2 := Nat.le_trans h (dr_of heq)
   have h3 := look_sd (p := p) (gs := m.gs) (rest := m.rest) h2
   split
   ·rename_i heq2; rw [heq2] at h3; exact askOn_md h3
   ·exact h3
  ·rename_i heq
   exact askOn_md (m := { m with world := _ }) (Nat.le_trans h (dr_of heq))
 ·exact askOn_md h
theorem move_md {p : Program} {m : Machine} {d : Nat} (h : d ≤ m.world.drawn) : MD d (move p m) := by
 unfold move
 split
 ·split
  ·exact h
  ·trivial
 ·split
  ·split
   ·exact h
   ·exact ask_md (m := { m with rest := _ }) h
  ·exact ask_md h
theorem step_sd {p : Program} {m : Machine} {d : Nat} (h : d ≤ m.world.drawn) : SD d (step p m) := by
 unfold step stepT
 have hm := move_md (p := p) h
 split
 ·rename_i heq; rw [heq] at hm; exact runT_sd hm
 ·rename_i heq; rw [heq] at hm; exact hm
theorem runN_sd {p : Program} {d : Nat} : ∀ (n : Nat) {m : Machine}, d ≤ m.world.drawn → SD d (runN p n m)
 | 0, _, h => h
 | n + 1, m, h => by
  have h1 := step_sd (p := p) h
  rw [runN]
  split
  ·rename_i heq; rw [heq] at h1; exact runN_sd n h1
  ·exact h1
theorem steps_drawn {p : Program} {m m' : Machine} (h : Steps p m m') : m.world.drawn ≤ m'.world.drawn := by
 obtain ⟨n, hn⟩ := h
 have := runN_sd (p := p) n (Nat.le_refl m.world.drawn)
 rw [hn] at this
 exact this
theorem calls_drawn {P : Program} {f : FuncId} {args : Array Value} {w : World} {R : Ending → World → Prop} (h : Calls P f args w R) (hr : ∀ e w', R e w' → e ≠ .outgrown) : Calls P f args w fun e w' => R e w' ∧ w.drawn ≤ w'.drawn := fun cs => by
 obtain ⟨e, w', fr, h1, h2, h3⟩ := h cs
 refine ⟨e, w', fr, ⟨h1, ?_⟩, h2, h3⟩
 cases e with
 | returned v => exact steps_drawn h2
 | panicked c => exact steps_drawn h2
 | outgrown => exact absurd rfl (hr _ _ h1)
end Go.Proofs.YtfbdckffjjladaaGreat
