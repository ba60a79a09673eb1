/- Es -/
import Derived.Test.YtaafefeafonhdaaGreatDe
set_option linter.unusedVariables false
set_option maxRecDepth 100000
set_option maxHeartbeats 400000000
set_option linter.unusedSimpArgs false
namespace Go.Proofs.YtaafefeafonhdaaGreat
def Dr{α:Type}(d:Nat):Result α->Prop
 | .ok _ w=>d<=w.drawn
 | .halt _ w=>d<=w.drawn
theorem Dr.mono{α:Type}{d d':Nat}{r:Result α}(h:Dr d r)(hd:d'<=d):Dr d' r:=by
 cases r<;>exact aK hd h
theorem qjQ(w:World)(a:Addr)(n:Nat):(w.freeze a n).drawn=w.drawn:=by
 unfold World.freeze;split<;>rfl
theorem qvk{α:Type}:∀(k:Ask α)(w:World),w.drawn<=(w.ask k).2.drawn:=by
 intro k
 induction k with
 |done a=>intro w;simp[World.ask]
 |ask what range k ih=>
  intro w;rw[World.ask]
  split
  ·exact ih _ _
  ·exact aK (Nat.le_succ _) (ih _ {w with drawn:=w.drawn+1})
theorem qjR(w:World)(c:Sys):w.drawn<=(w.sys c).2.drawn:=by
 have h:=qvk (Kernel.perform c w.os) w;unfold World.sys;generalize w.ask (Kernel.perform c w.os)=X at*;obtain⟨⟨r,os⟩,w'⟩:=X
 dsimp only at h⊢
 split
 ·exact aA _
 ·rename_i heq;cases heq;exact h
theorem qjP{p:Program}{w w':World}{a:Addr}{v:Value}{b:Bool}{l:List Addr}(h:w.farStore p a v b=.ok (w',l)):w'.drawn=w.drawn:=by
 unfold World.farStore at h
 split at h
 ·split at h
  ·rename_i h2;cases h;unfold World.viewStore at h2;simp only[bind,Except.bind,pure,Except.pure]at h2
   repeat' (split at h2)
   all_goals first|(cases h2;done)|(cases h2;rfl)|skip
  ·cases h
 ·cases h
theorem qqU(p:Program){α:Type}:∀(m:Sem α)(w:World),Dr w.drawn (m.run p w):=by
 intro m
 induction m with
 |pure a=>intro w;exact aA _
 |load m a k ih=>
  intro w;unfold Sem.run;split
  ·exact ih _ _
  ·split
   ·exact ih _ _
   ·exact aA _
 |store m a v k ih=>
  intro w
  have key:Dr w.drawn (match w.cell? a with
   | some _ => if w.frozen? a then .halt (.unsupported (.unsafePointer "a write to bytes that a string shares")) w else k.run p (w.setCell a v)
   |none=>match w.farStore p a v (m== .atomic)with
    | .ok (w,_)=>k.run p w
    | .error h=>.halt h w):=by
   split
   ·split
    ·exact aA _
    ·exact ih (w.setCell a v)
   ·split
    ·rename_i h;have h2:=qjP h;rw[<-h2];exact ih _
    ·exact aA _
  cases v<;>first|exact key|exact aA _
 |new o k ih=>intro w;exact ih _ {w with heap:=w.heap.push o}
 |shape r k ih=>intro w;exact ih _ _
 |freeze a n k ih=>intro w;have:=ih (w.freeze a n);rw[qjQ]at this;exact this
 |frozen a k ih=>intro w;exact ih _ _
 |getObj r k ih=>
  intro w;unfold Sem.run;split
  ·exact aA _
  ·exact ih _ _
  ·exact aA _
 |setObj r o k ih=>
  intro w;unfold Sem.run;split
  ·exact aA _
  ·exact ih {w with heap:=w.heap.setIfInBounds r o}
  ·exact aA _
 |choose q k ih=>
  intro w;unfold Sem.run;split
  ·exact ih _ _
  ·exact(ih _ {w with drawn:=w.drawn+1}).mono (Nat.le_succ _)
 |sys c k ih=>intro w;exact(ih _ _).mono (qjR w c)
 |program k ih=>intro w;exact ih _ _
 |mark m k ih=>intro w;exact ih _
 |halt h=>intro w;exact aA _
theorem FE(p:Program){α:Type}:∀(m:Sem α)(w:World)(es:Array Event),Dr w.drawn (m.runT p w es).1:=by
 intro m
 induction m with
 |pure a=>intro w es;exact aA _
 |load m a k ih=>
  intro w es;unfold Sem.runT;split
  ·exact ih _ _ _
  ·split
   ·exact ih _ _ _
   ·exact aA _
 |store m a v k ih=>
  intro w es
  have key:Dr w.drawn (show Result α × Array Event from match w.cell? a with
   |some _=>
    if w.frozen? a then (.halt (.unsupported (.unsafePointer "a write to bytes that a string shares")) w, es)
    else k.runT p (w.setCell a v) (es.push ⟨.cell a,true,m== .atomic⟩)
   |none=>match w.farStore p a v (m== .atomic)with
    | .ok (w,qEg)=>k.runT p w (es++qEg.toArray.map (⟨.cell ·,true,m== .atomic⟩))
    | .error h=>(.halt h w,es)).1:=by
   split
   ·split
    ·exact aA _
    ·exact ih (w.setCell a v) _
   ·split
    ·rename_i h;have h2:=qjP h;rw[<-h2];exact ih _ _
    ·exact aA _
  cases v<;>first|exact key|exact aA _
 |new o k ih=>intro w es;exact ih _ {w with heap:=w.heap.push o} _
 |shape r k ih=>intro w es;exact ih _ _ _
 |freeze a n k ih=>intro w es;have:=ih (w.freeze a n) es;rw[qjQ]at this;exact this
 |frozen a k ih=>intro w es;exact ih _ _ _
 |getObj r k ih=>
  intro w es;unfold Sem.runT;split
  ·exact aA _
  ·exact ih _ _ _
  ·exact aA _
 |setObj r o k ih=>
  intro w es;unfold Sem.runT;split
  ·exact aA _
  ·exact ih {w with heap:=w.heap.setIfInBounds r o} _
  ·exact aA _
 |choose q k ih=>
  intro w es;unfold Sem.runT;split
  ·exact ih _ _ _
  ·exact(ih _ {w with drawn:=w.drawn+1} _).mono (Nat.le_succ _)
 |sys c k ih=>intro w es;exact(ih _ _ _).mono (qjR w c)
 |program k ih=>intro w es;exact ih _ _ _
 |mark m k ih=>intro w es;exact ih _ _
 |halt h=>intro w es;exact aA _
theorem dr_of{p:Program}{α:Type}{m:Sem α}{w:World}{r:Result α}(h:m.run p w=r):Dr w.drawn r:=h ▸ qqU p m w
theorem qvi{p:Program}{α:Type}{m:Sem α}{w:World}{es es':Array Event}{r:Result α}(h:m.runT p w es=(r,es')):Dr w.drawn r:=by
 have:=FE p m w es;rw[h]at this;exact this
def GD(d:Nat):GStep->Prop
 | .go _ w _| .comm _ _ _ _ w _| .spawn _ _ w _| .count _ w _| .timer _ _ w _| .alone _ _ w _| .newcoro _ _ _ w _| .coroswitch _ _ _ w _| .collect _ w _| .watch _ w _=>d<=w.drawn
 | .ended ..=>True
theorem GD.after{d:Nat}{es:Array Event}{s:GStep}(h:GD d s):GD d (s.after es):=by cases s<;>exact h
theorem qbM{p:Program}{main:Bool}{fr:Frame}{cs:List Frame}{dy:Option Dying}{v:Value}{w:World}{d:Nat}(h:d<=w.drawn):GD d (doReturn p main fr cs dy v w):=by
 unfold doReturn
 repeat' split
 all_goals first|exact h|trivial
theorem quZ{fr:Frame}{l:List ByteArray}{m:String}{b:Bool}{w:World}{d:Nat}(h:d<=w.drawn):GD d (dieOf fr l m b w):=h
theorem VE{fr:Frame}{m:String}{w:World}{d:Nat}(h:d<=w.drawn):GD d (endThrow fr m w):=h
theorem qvK{w:World}{fd:Nat}{t:ByteArray}{o:Outcome}{d:Nat}:GD d (endWith w fd t o):=by
 unfold endWith
 dsimp only
 repeat' split
 all_goals trivial
theorem qj2{p:Program}{fr:Frame}{v:Value}{w:World}{d:Nat}(h:d<=w.drawn):GD d (endPrinting p fr v w):=by
 unfold endPrinting
 dsimp only
 split
 ·exact VE h
 ·trivial
theorem qj1{p:Program}{fr:Frame}{cs:List Frame}{dy:Option Dying}{m:String}{w:World}{d:Nat}(h:d<=w.drawn):GD d (endFatal p fr cs dy m w):=by
 unfold endFatal
 dsimp only
 split
 ·rename_i heq;have h2:=dr_of heq;exact quZ (aK h h2)
 ·trivial
 ·trivial
theorem qEP{p:Program}{fr:Frame}{dd:Dying}{f:Fatal}{w:World}{d:Nat}(h:d<=w.drawn):GD d (writeOn p fr dd f w):=by
 unfold writeOn
 dsimp only
 split
 ·trivial
 ·split
  all_goals rename_i heq
  all_goals have h2:=qvi heq
  all_goals first|exact aK h h2|trivial
theorem DF{c:Prop}[Decidable c]{d:Nat}{a b:GStep}(ha:GD d a)(hb:GD d b):GD d (if c then a else b):=by split<;>assumption
theorem qu0{p:Program}{fr:Frame}{dd:Dying}{w:World}{d:Nat}(h:d<=w.drawn):GD d (die p fr dd w):=by
 unfold die
 split
 ·exact qEP h
 ·split
  ·split
   ·exact h
   ·exact qvK
  ·dsimp only
   split
   ·exact h
   ·split
    ·rename_i heq;exact aK h (dr_of heq)
    ·trivial
   ·rename_i t recv name _;have h2:=FE p (invoke (.fn (.method name) #[]) #[.iface t recv]) w #[];generalize Sem.runT p (invoke (.fn (.method name) #[]) #[.iface t recv]) w #[]=X at h2⊢;obtain⟨r,es⟩:=X;refine GD.after ?_
    dsimp only at h2⊢
    split
    all_goals first|trivial|exact aK h h2|exact qj2 (aK h h2)
   ·trivial
theorem qt5{p:Program}{fr:Frame}{cs:List Frame}{dy:Option Dying}{dd:Deferred}{w:World}{d:Nat}(h:d<=w.drawn):GD d (callDeferred p fr cs dy dd w):=by
 unfold callDeferred;refine DF trivial ?_;have h2:=FE p (invoke dd.target dd.args) w #[];generalize Sem.runT p (invoke dd.target dd.args) w #[]=X at h2⊢;obtain⟨r,es⟩:=X;refine GD.after ?_
 dsimp only at h2⊢
 split
 all_goals first|trivial|exact aK h h2|exact qj1 (aK h h2)|exact VE (aK h h2)|(split<;>exact aK h h2)
theorem qEr{p:Program}{main:Bool}{fr:Frame}{cs:List Frame}{dy:Option Dying}{w:World}{d:Nat}(h:d<=w.drawn):GD d (unwind p main fr cs dy w):=by
 unfold unwind
 split
 ·rename_i block _ _ _;have h2:=FE p (Instr.takeDeferred block) w #[];generalize Sem.runT p (Instr.takeDeferred block) w #[]=X at h2⊢;obtain⟨r,es⟩:=X;refine GD.after ?_
  dsimp only at h2⊢
  split
  ·exact aK h h2
  ·trivial
 ·exact qt5 h
 ·split
  ·trivial
  ·split
   ·trivial
   ·split
    ·exact h
    ·split
     ·split
      ·exact h
      ·split
       ·rename_i heq;exact aK h (dr_of heq)
       ·trivial
       ·trivial
     ·split
      ·exact qj2 h
      ·trivial
  ·split
   ·exact qbM h
   ·rename_i fn _;have h2:=FE p (results fn fr.tmps) w #[];generalize Sem.runT p (results fn fr.tmps) w #[]=X at h2⊢;obtain⟨r,es⟩:=X;refine GD.after ?_
    dsimp only at h2⊢
    split
    ·exact qbM (aK h h2)
    ·trivial
    ·trivial
theorem qvA{p:Program}{fr:Frame}{cs:List Frame}{dy:Option Dying}{g:Nat}{w:World}{d:Nat}(h:d<=w.drawn):GD d (early p fr cs dy g w):=by
 have hn:∀w:World,d<=w.drawn->GD d (match w.heap[g]? with
  |some (.pending c elem)=>.go {frame:=fr,callers:=cs,status:=.running,dying:=dy} {w with heap:=w.heap.setIfInBounds g (.cells c elem)}
  | _ => .ended (.stuck "early: the variable does not wait" (fr.pos p)) w) := by
  intro w hw
  split
  ·exact hw
  ·trivial
 unfold early
 dsimp only
 refine DF (hn _ h) ?_
 split
 ·trivial
 ·refine DF (hn _ h) (DF (hn _ h) ?_)
  split
  ·trivial
  ·exact h
  ·trivial
  ·exact hn _ h
  ·refine DF h (DF (hn _ h) ?_)
   split
   ·rename_i heq;exact hn _ (aK h (dr_of heq))
   ·rename_i heq;exact aK h (dr_of heq)
   ·trivial
theorem Vl{p:Program}{listen:Bool}{fr:Frame}{cs:List Frame}{dy:Option Dying}{s:Sem Next}{w:World}{d:Nat}(h:d<=w.drawn):GD d (stepG.apply p listen fr cs dy s w):=by
 unfold stepG.apply
 have h2:Dr w.drawn (if listen=true then s.runT p w #[]else(s.run p w,#[])).1:=by
  split
  ·exact FE p s w #[]
  ·exact qqU p s w
 generalize (if listen=true then s.runT p w #[]else(s.run p w,#[]))=X at h2⊢;obtain⟨r,es⟩:=X;refine GD.after ?_
 dsimp only at h2⊢
 generalize (match fr.todo with
  | .call _ true _ _::_=>CallKind.wrapped
  |_=>CallKind.normal)=kd
 split
 all_goals first|trivial|exact aK h h2|exact qj1 (aK h h2)|exact VE (aK h h2)|exact qvA (aK h h2)|(split<;>exact aK h h2)|exact DF (VE (aK h h2)) (aK h h2)
theorem qBt{p:Program}{listen:Bool}{fr:Frame}{cs:List Frame}{dy:Option Dying}{w:World}{d:Nat}(h:d<=w.drawn):GD d (stepG.oper p listen fr cs dy w):=by
 unfold stepG.oper
 split
 ·trivial
 ·split<;>exact Vl h
theorem qeW{p:Program}{main b:Bool}{fr fr':Frame}{cs:List Frame}{dy:Option Dying}{w:World}{d:Nat}{jump:Option Code}{why qEA:Outcome}(h:d<=w.drawn):GD d (match fr.roundOf with
 |none=>if b=true then .go {frame:=fr',callers:=cs,status:=.running,dying:=dy} w else .ended why w
 |some l=>GStep.after (seen p fr.fn (Sem.runT p (Instr.endRound l jump) w #[]).snd)
  (match(Sem.runT p (Instr.endRound l jump) w #[]).fst with
  | .ok v w=>doReturn p main fr cs dy v w
  | .halt _ w=>.ended qEA w)):=by
 split
 ·exact DF h trivial
 ·rename_i l _;have h2:=FE p (Instr.endRound l jump) w #[];refine GD.after ?_;generalize (Sem.runT p (Instr.endRound l jump) w #[]).fst=r at h2⊢
  split
  ·exact qbM (aK h h2)
  ·trivial
theorem qwh{p:Program}{main listen:Bool}{fr:Frame}{cs:List Frame}{dy:Option Dying}{w:World}{d:Nat}(h:d<=w.drawn):GD d (stepG.exec p main listen fr cs dy w):=by
 unfold stepG.exec
 dsimp only
 split
 all_goals first|exact h|exact qeW h|trivial|exact Vl h|skip
 ·split<;>first|exact h|trivial
 ·rename_i id k _;generalize exitTo id k=o
  cases o with
  |none=>exact qeW h
  |some t=>exact h
 ·rename_i l k _;generalize gotoIn l k=o
  cases o with
  |none=>exact qeW h
  |some t=>exact h
 ·rename_i f params assign body k _;have h2:=FE p (Instr.enterLoop fr.fn fr.tmps params assign body fr.roundOf) w #[];refine GD.after ?_;generalize (Sem.runT p (Instr.enterLoop fr.fn fr.tmps params assign body fr.roundOf) w #[]).fst=r at h2⊢
  split
  ·exact Vl (aK h h2)
  ·trivial
 ·rename_i l k _;have h2:=FE p (Instr.endLoop l) w #[];refine GD.after ?_;generalize (Sem.runT p (Instr.endLoop l) w #[]).fst=r at h2⊢
  split
  ·exact aK h h2
  ·exact aK h h2
  ·trivial
 ·rename_i row args _ _;generalize Extern.next row=o
  cases o with
  |none=>trivial
  |some e=>exact Vl h
 ·refine DF h ?_
  split
  ·rename_i heq;exact aK h (dr_of heq)
  ·trivial
 ·exact DF (qBt h) h
theorem qDI{p:Program}{main listen:Bool}{g:Goroutine}{w:World}{d:Nat}(h:d<=w.drawn):GD d (stepG p main g w listen):=by
 unfold stepG
 dsimp only
 split
 ·exact qu0 h
 ·exact qwh h
 ·exact qEr h
def SD(d:Nat):Stepped->Prop
 | .next m=>d<=m.world.drawn
 | .ended ..=>True
theorem qo7{p:Program}{gs:Array Goroutine}{rest:Rest}{w:World}{d:Nat}(h:d<=w.drawn):SD d (look p gs rest w):=by
 unfold look
 dsimp only
 split
 ·split
  ·trivial
  ·split
   ·trivial
   ·split
    ·rename_i heq;exact aK h (dr_of heq)
    ·trivial
    ·trivial
 ·trivial
theorem qEz{rest:Rest}{cases:Array CommCase}{w w':World}(h:waitingAt rest cases w=some w'):w'.drawn=w.drawn:=by
 unfold waitingAt at h
 split at h
 ·split at h
  ·cases h;rfl
  ·cases h
 ·cases h;rfl
theorem quM{p:Program}{rest:Rest}{gs:Array Goroutine}{i:Nat}{g:Goroutine}{cases:Array CommCase}{bl:Bool}{shape:CommShape}{w:World}{d:Nat}(h:d<=w.drawn):SD d (communicate p rest gs i g cases bl shape w).1:=by
 unfold communicate
 dsimp only
 split
 ·trivial
 ·split
  ·split
   ·split
    ·rename_i heq;rw[<-qEz heq]at h;exact h
    ·trivial
   ·exact h
  ·split
   ·trivial
   ·rename_i heq;have h2:=aK h (dr_of heq)
    split
    ·split
     ·rename_i heq2;exact aK h2 (dr_of heq2)
     ·trivial
    ·exact h2
    ·exact h2
    ·split
     ·exact h2
     ·split
      ·rename_i heq2;exact aK h2 (dr_of heq2)
      ·trivial
    ·exact h2
    ·exact h2
    ·trivial
theorem qCY{p:Program}{m:Machine}{k:Nat}{d:Nat}(h:d<=m.world.drawn):SD d (serve p m k):=by
 unfold serve
 split
 ·trivial
 ·exact h
 ·dsimp only
  split
  ·trivial
  ·exact h
theorem qvj(w:World)(c:Nat):(drain w c).2.drawn=w.drawn:=by
 unfold drain
 split<;>rfl
theorem qqI(m:Machine)(k:Nat)(t:Timer)(a b:Nat):(retime m k t a b).2.world.drawn=m.world.drawn:=by
 unfold retime
 dsimp only
 split
 ·exact qvj _ _
 ·rfl
theorem qpi{m m':Machine}{var:Addr}{f:Nat->Timer->Value × Machine}{v:Value}(hf:∀k t,(f k t).2.world.drawn=m.world.drawn)(h:timerOp.named m var f=.ok (v,m')):m'.world.drawn=m.world.drawn:=by
 unfold timerOp.named at h
 split at h
 ·rename_i k _;have e:=Except.ok.inj h;have:=hf k (m.rest.timers.getD k default);rw[e]at this;exact this
 ·cases h
theorem qD5{m m':Machine}{op:TimerOp}{v:Value}(h:timerOp m op=.ok (v,m')):m'.world.drawn=m.world.drawn:=by
 unfold timerOp at h
 split at h
 ·split at h
  ·cases h;rfl
  ·split at h
   ·split at h
    ·cases h
    ·cases h;rfl
   ·cases h
 ·exact qpi (λk t=>qqI _ _ _ _ _) h
 ·split at h
  ·rename_i m2 heq;refine qpi (λk t=>?_) h;rw[qqI];unfold timerOp.opened at heq
   split at heq
   ·split at heq
    ·cases heq;rfl
    ·cases heq
   ·cases heq;rfl
  ·cases h
 ·cases h;rfl
theorem qCP{p:Program}{m:Machine}{i:Nat}{listen:Bool}{d:Nat}(h:d<=m.world.drawn):SD d (runT p m i listen).1:=by
 unfold runT
 dsimp only
 have hg:=qDI (p:=p) (main:=i==0) (listen:=listen) (g:=(m.gs.swapAt! i {(default:Goroutine)with status:=.finished}).1) h;generalize stepG p (i==0) (m.gs.swapAt! i {(default:Goroutine)with status:=.finished}).1 m.world listen=s at hg⊢
 split
 ·trivial
 ·exact quM hg
 ·exact hg
 ·exact hg
 ·split
  ·trivial
  ·exact hg
 ·exact hg
 ·exact qo7 hg
 ·exact hg
 ·exact hg
 ·split
  ·exact hg
  ·exact hg
  ·trivial
 ·split
  ·rename_i heq;have:=qD5 heq;show d<=_
   dsimp only at this⊢
   rw[this];exact hg
  ·exact hg
  ·trivial
  ·trivial
def MD(d:Nat):Move->Prop
 | .goroutine m _=>d<=m.world.drawn
 | .machine s _=>SD d s
theorem pick_md{p:Program}{d n:Nat}{at_:Nat->Nat}{r r2:Nat->Nat->Rest}{gs:Array Goroutine}{w:World}{o o2:Outcome}(h:d<=w.drawn):MD d (match Sem.run p (choose (.sched n)) w with
 | .halt _ w=>.machine (.ended o w)
 | .ok k world=>
  if n<=1 then .goroutine {world,gs,rest:=r k 0} (at_ k)else
  match Sem.run p (choose (.extern "sched.slice" 65536)) world with
  | .halt _ w=>.machine (.ended o2 w)
  | .ok s world=>.goroutine {world,gs,rest:=r2 k s} (at_ k)):=by
 split
 ·trivial
 ·rename_i heq;have h2:=aK h (dr_of heq)
  split
  ·exact h2
  ·split
   ·trivial
   ·rename_i heq2;exact aK h2 (dr_of heq2)
theorem qbh{p:Program}{m:Machine}{d:Nat}(h:d<=m.world.drawn):MD d (askOn p m):=by
 unfold askOn
 dsimp only
 split
 ·trivial
 ·rename_i k world heq;have h2:d<=world.drawn:=aK h (dr_of heq)
  split
  ·exact qCY (m:={world:=world,gs:=m.gs,rest:=m.rest}) h2
  ·split
   ·split
    ·exact h2
    ·split
     ·exact h2
     ·split
      ·trivial
      ·trivial
   ·split
    ·exact pick_md (r := fun _ _ => m.rest) (r2 := fun k n => { m.rest with slice := if n = 0 then none else some ((runnable m.gs m.world.os.mono).getD k 0, n) }) (at_ := fun k => (runnable m.gs m.world.os.mono).getD k 0) (o2 := .stuck "sched.slice" "") h2
    ·split
     ·trivial
     ·rename_i heq2
      exact pick_md (r := fun _ _ => m.rest) (r2 := fun k n => { m.rest with slice := if n = 0 then none else some ((runnable m.gs m.world.os.mono).getD k 0, n) }) (at_ := fun k => (runnable m.gs m.world.os.mono).getD k 0) (o2 := .stuck "sched.slice" "") (Nat.le_trans h2 (dr_of heq2))
     ·rename_i heq2;exact aK h2 (dr_of heq2)
     ·rename_i k2 w2 heq2
      refine pick_md (r := fun _ _ => m.rest) (r2 := fun k n => { m.rest with slice := if n = 0 then none else some ((runnable m.gs m.world.os.mono).getD k 0, n) }) (at_ := fun k => (runnable m.gs m.world.os.mono).getD k 0) (o2 := .stuck "sched.slice" "") ?_
      exact aK h2 (dr_of heq2)
theorem qjb{p:Program}{m:Machine}{d:Nat}(h:d<=m.world.drawn):MD d (ask p m):=by
 unfold ask
 split
 ·split
  ·trivial
  ·rename_i heq;have h2:=aK h (dr_of heq);have h3:=qo7 (p:=p) (gs:=m.gs) (rest:=m.rest) h2
   split
   ·rename_i heq2;rw[heq2]at h3;exact qbh h3
   ·exact h3
  ·rename_i heq;exact qbh (m:={m with world:=_}) (aK h (dr_of heq))
 ·exact qbh h
theorem qAs{p:Program}{m:Machine}{d:Nat}(h:d<=m.world.drawn):MD d (move p m):=by
 unfold move
 split
 ·split
  ·exact h
  ·trivial
 ·split
  ·split
   ·exact h
   ·exact qjb (m:={m with rest:=_}) h
  ·exact qjb h
theorem qDM{p:Program}{m:Machine}{d:Nat}(h:d<=m.world.drawn):SD d (step p m):=by
 unfold step stepT;have hm:=qAs (p:=p) h
 split
 ·rename_i heq;rw[heq]at hm;exact qCP hm
 ·rename_i heq;rw[heq]at hm;exact hm
theorem qqT{p:Program}{d:Nat}:∀(n:Nat){m:Machine},d<=m.world.drawn->SD d (runN p n m)
 |0,_,h=>h
 |n+1,m,h=>by
  have h1:=qDM (p:=p) h;rw[runN]
  split
  ·rename_i heq;rw[heq]at h1;exact qqT n h1
  ·exact h1
theorem qri{p:Program}{m m':Machine}(h:Steps p m m'):m.world.drawn<=m'.world.drawn:=by
 obtain⟨n,hn⟩:=h;have:=qqT (p:=p) n (aA m.world.drawn);rw[hn]at this;exact this
theorem qt6{P:Program}{f:FuncId}{args:Array Value}{w:World}{R:Ending->World->Prop}(h:Calls P f args w R)(hr:∀e w',R e w'->e≠ .outgrown):Calls P f args w λe w'=>R e w'/\w.drawn<=w'.drawn:=λcs=>by
 obtain⟨e,w',fr,h1,h2,h3⟩:=h cs;refine⟨e,w',fr,⟨h1,?_⟩,h2,h3⟩
 cases e with
 |returned v=>exact qri h2
 |panicked c=>exact qri h2
 |outgrown=>exact absurd rfl (hr _ _ h1)
end Go.Proofs.YtaafefeafonhdaaGreat
namespace Go.Proofs.YtaafefeafonhdaaGreat
open Go.RowKit
theorem QJ{L N:Nat}(h1:1<=L)(h4:L<=4){l:List Tm}(hl:NN l)(h:∀m,aH l m≠0->m.get L<(N:Int)):af (aM L N λi=>ck L (i:Int) l) l:=λm=>by
 rw[qjx h1 h4]
 by_cases ha:0<=m.get L/\m.get L<(N:Int)
 ·rw[av ha]
 ·rw[aj ha];refine(gQ λhc=>?_);have h3:=h m (λe=>hc e.symm)
  have h5:m.nn=true:=by
   cases hq:m.nn with
   |true=>rfl
   |false=>exact absurd (hl m hq).symm hc
  have:=Bt h5 L;omega
theorem qBM{L N S:Nat}(h1:1<=L)(h4:L<=4){P:Nat->List Tm}(h:∀i,i<N->bE S (P i)):bE (S+N) (aM L N P):=by
 induction N with
 |zero=>intro m hm;exact absurd rfl hm
 |succ N ih=>
  intro m hm k;rw[gF,iJ,xC]at hm
  by_cases hc:aH (aM L N P) m=0
  ·have eX:aH (P N) (Mo.sub m (xp L (N:Int)))≠0:=by omega
   have:=h N (by omega) _ eX k;rw[EI,gM _ _ _ h1 h4]at this
   split at this<;>omega
  ·have:=ih (λi hi=>h i (by omega)) m hc k;omega
theorem qbA{L B A:Nat}(h1:1<=L)(h4:L<=4){l:List Tm}(hl:NN l)(hB:bE B l)(hA:aF (aB l)<=A)(e:Int):fU L B A (ck L e l):=
 ⟨gX h1 h4 hl,qb3 h1 h4 e l,qbp h1 h4 hB,aK (fu (qbs L e l)) hA⟩
def Ck(L:Nat)(f:List Tm)(n V:Nat):Prop:=(af f []/\V=0)\/(¬af f []/\∃a,dJ L f a/\V=a+1-n)
theorem Ck.lt{L n V:Nat}{f:List Tm}(h:Ck L f n V)(m:Mo)(hm:aH f m≠0):m.get L<((n+V:Nat):Int):=by
 rcases h with⟨hz,_⟩|⟨_,a,ha,rfl⟩
 ·exact absurd (hz m) hm
 ·have:=ha.1 m hm;omega
theorem Ck.le{L n V B:Nat}{f:List Tm}(h:Ck L f n V)(hB:bE B f):V<=B+1:=by
 rcases h with⟨_,rfl⟩|⟨_,a,ha,rfl⟩
 ·omega
 ·have:=VA ha hB;omega
abbrev aS(L:Nat)(l:List Tm)(i:Nat):List Tm:=ck L (i:Int) l
def qBz(L n V:Nat)(f g:List Tm):List Tm:=aM L V λi=>aC (xX n V (aS L g) (aS L f) i) (dS (ck L (n:Int) g) i)
def ve(L n V:Nat)(f g:List Tm):List Tm:=aM L n (iC n V (aS L g) (aS L f) V)
structure Ce(L n V B C A D:Nat)(f g:List Tm):Prop where
 h1:1<=L
 h4:L<=4
 nf:NN f
 ng:NN g
 hB:bE B f
 hC:bE C g
 hA:aF (aB f)<=A
 hD:aF (aB g)<=D
 dg:dJ L g n
 st:Ck L f n V
section
variable{L n V B C A D:Nat}{f g:List Tm}
theorem Ce.cf(h:Ce L n V B C A D f g)(i:Nat):fU L B A (aS L f i):=qbA h.h1 h.h4 h.nf h.hB h.hA _
theorem Ce.cg(h:Ce L n V B C A D f g)(i:Nat):fU L C D (aS L g i):=qbA h.h1 h.h4 h.ng h.hC h.hD _
theorem Ce.all(h:Ce L n V B C A D f g)(t:Nat)(ht:t<=V):Gh L n V B C A D (ck L (n:Int) g) f g (V-t) (iC n V (aS L g) (aS L f) t) (xX n V (aS L g) (aS L f)):=
 qfk (QJ h.h1 h.h4 h.nf h.st.lt) (λi _=>h.cf i) (QJ h.h1 h.h4 h.ng λm hm=>by have:=h.dg.1 m hm;omega) (λi _=>h.cg i) t ht
theorem Ce.rest(h:Ce L n V B C A D f g)(i:Nat)(hi:i<n):fU L (B+V*C) (A+V*(D+1)) (iC n V (aS L g) (aS L f) V i):=by
 have h1:=(h.all V (aA V)).2.1 i (by omega);rw[Nat.sub_self,Nat.sub_zero]at h1;exact h1
end
theorem qqj(M:Nat->Prop)(a:Option Addr)(N cap n gd:Nat)(w:World)(hN:N<=n)(hn:n<=1000000):
 Calls Tryz.prog 172 #[.slice a N cap,.slice (some ⟨gd,0,none⟩) (n+1) (n+1)] w λe w'=>∃gt,e=.returned (.tuple #[.slice (some ⟨gt,0,none⟩) 0 0,.slice a N cap])/\w.heap.size<=gt/\gt<w'.heap.size/\Kids M w' 4 gt 0 (λ_=>[])/\Ext w w':=by
 obtain⟨i0,hi,hz0,hz1,hz2⟩:=info_parts Tryz.xU;have iN:(0:Int)<=(n:Int):=jE _;have VY:(0:Int)<=(N:Int):=jE _
 have Og:(n:Int)<=1000000:=by omega
 have hNI:(N:Int)<=(n:Int):=by omega
 have hmx:max ((N:Int)-(n:Int)) 0=0:=by omega
 have qGv:(max ((N:Int)-(n:Int)) 0).toNat=0:=by omega
 go_enter Tryz.func172,Tryz.ntmps172
 go_upto_region 3 with(fail)
 go_wp2_with (first|(at_make;refine Yp _ rfl _ _ _ rfl 42 i0 (.agg #[.int .i64 0,.bool false,.slice none 0 0,.slice none 0 0]) 4 Tryz.underlying34 hi hz0 hz1 .i64 .i64 _ _ 0 rfl rfl ?c4 ?c5 ?c2 ?c3 ?_))
 case c2=>omega
 case c3=>unfold maxLen;omega
 case c4=>first|rfl|go_num|omega
 case c5=>first|rfl|go_num|omega
 have bR:=QE w 0 42;have ah:=(ai w).alloc (.cells (madeCells (Value.agg #[.int .i64 0,.bool false,.slice none 0 0,.slice none 0 0]).cells (0*4)) 42);intro w1 hw1;replace hw1:w.alloc (.cells (madeCells (Value.agg #[.int .i64 0,.bool false,.slice none 0 0,.slice none 0 0]).cells (0*4)) 42)=w1:=hw1.out.symm;rw[hw1]at bR ah;have HK:Hid (Kids M w1 4 w.heap.size 0 (λ_=>[])):=Kids.fresh bR;have HF:Hid (∃gt,(Ending.returned (.tuple #[.slice (some ⟨w.heap.size,0,none⟩) 0 0,.slice a N cap]))=.returned (.tuple #[.slice (some ⟨gt,0,none⟩) 0 0,.slice a N cap])/\w.heap.size<=gt/\gt<w1.heap.size/\Kids M w1 4 gt 0 (λ_=>[])/\Ext w w1):=⟨_,rfl,aA _,bR.lt,HK.out,ah⟩;clear hw1 bR ah HK hi hz0 hz1 hz2;go_wp2;refine wp_loop_rounds 1 ?_;rw[rounds_succ];go_wp2;exact aV (v:=.tuple #[.slice (some ⟨w.heap.size,0,none⟩) 0 0,.slice a N cap]) (by simp[results,Tryz.results172,go_sem]) rfl HF.out
def qtL(M0 M1:Nat->Prop)(w0 w:World)(L n V gd:Nat)(f g:List Tm)(e:Ending)(w':World):Prop:=
 ∃(gt:Nat)(ra:Option Addr)(rn rc:Nat)(R:Nat->List Tm),e=.returned (.tuple #[.slice (some ⟨gt,0,none⟩) V V,.slice ra rn rc])/\w.heap.size<=gt/\Kids (λb=>M1 b\/b=gt) w' 4 gt V (xX n V (aS L g) (aS L f))/\Kids (λb=>M1 b\/b=gt) w' 4 gd (n+1) (aS L g)/\dP (λb=>M0 b\/b=gt) w' 4 (.slice ra rn rc) rn R/\rn<=n/\(∀i,i<rn->R i=iC n V (aS L g) (aS L f) V i)/\af (aM L rn R) (ve L n V f g)/\Ext w0 w'
theorem qB0(M0 M1:Nat->Prop)(w0 w:World)(L n V B C A D gd:Nat)(f g:List Tm)(rv:Value)(hE:Ext w0 w)(hM:Mb M1 w)(bD:Mb M0 w0)(Sc:∀b,M0 b->M1 b)(H:Ce L n V B C A D f g)(hG:Kids M1 w 4 gd (n+1) (aS L g))
 (hf:(af f []/\rv=.slice none 0 0)\/(¬af f []/\∃a gf,rv=.slice (some ⟨gf,0,none⟩) (a+1) (a+1)/\w0.heap.size<=gf/\gf≠gd/\M1 gf/\dJ L f a/\Kids M1 w 4 gf (a+1) (aS L f)))
 (hnV:n+V<=1000000) (hB:B+V*C+C<=1000000) (mV:(B+V*C+1)*(C+1)<=1099511627776) (hA:A+V*(D+1)+D+2<=549755813888):
 Calls Tryz.prog 172 #[rv,.slice (some ⟨gd,0,none⟩) (n+1) (n+1)] w (qtL M0 M1 w0 w L n V gd f g):=by
 have qmI:=(hG.at 0 (by omega)).2.2.2.2.2;have hF:∀N:Nat,(∀m,aH f m≠0->m.get L<(N:Int))->af (aM L N (aS L f)) f:=λN h=>QJ H.h1 H.h4 H.nf h;rcases hf with⟨hz,rfl⟩|⟨hz,a,gf,rfl,KE,hne,kH,Di,hK⟩
 ·have hV:V=0:=by
   rcases H.st with⟨_,h⟩|⟨h,_⟩
   ·exact h
   ·exact absurd hz h
  subst hV;refine(qqj M1 none 0 0 n gd w (bu _) (by omega)).mono ?_;rintro e w' ⟨gt,rfl,h1,h2,h3,h4⟩
  have KP:∀b,(M1 b\/b=gt)->M1 b\/w.heap.size<=b:=λb hb=>hb.imp id λh=>by omega
  refine⟨gt,none,0,0,λ_=>[],rfl,h1,⟨fH,?_,λi hi=>absurd hi (Nat.not_lt_zero _)⟩,(hG.more KP).ext h4,⟨bu _,.inl ⟨rfl,rfl⟩⟩,bu _,λi hi=>absurd hi (Nat.not_lt_zero _),?_,hE.trans h4⟩
  ·obtain⟨fn,hb,_⟩:=h3;exact hb.congr λi hi=>absurd hi (by omega)
  ·exact((hF n λm hm=>absurd (hz m) hm).trans hz).symm
 ·obtain⟨a',ha',hV⟩:∃a',dJ L f a'/\V=a'+1-n:=by
   rcases H.st with⟨h,_⟩|⟨_,h⟩
   ·exact absurd h hz
   ·exact h
  obtain rfl:=Nh H.nf hz Di ha'
  have hlt:∀m,aH f m≠0->m.get L<((a+1:Nat):Int):=λm hm=>by have:=Di.1 m hm;omega
  by_cases h0:V=0
  ·subst h0;refine(qqj M1 (some ⟨gf,0,none⟩) (a+1) (a+1) n gd w (by omega) (by omega)).mono ?_;rintro e w' ⟨gt,rfl,h1,h2,h3,h4⟩
   have KP:∀b,(M1 b\/b=gt)->M1 b\/w.heap.size<=b:=λb hb=>hb.imp id λh=>by omega
   refine⟨gt,some ⟨gf,0,none⟩,a+1,a+1,aS L f,rfl,h1,⟨fH,?_,λi hi=>absurd hi (Nat.not_lt_zero _)⟩,(hG.more KP).ext h4,(hK.pre (M':=λb=>M0 b\/b=gt) (λb hb=>hb.elim (λh=>.inl (Sc b h)) λh=>.inr (by omega)) (λhh=>hh.elim (bD.new KE) λe=>by have:=hK.lt;omega) (by omega) (aA _) (by unfold maxLen;omega)).ext h4,by omega,λi _=>rfl,?_,hE.trans h4⟩
   ·obtain⟨fn,hb,_⟩:=h3;exact hb.congr λi hi=>absurd hi (by omega)
   ·exact(hF _ hlt).trans (hF n λm hm=>by have:=hlt m hm;omega).symm
  ·have hN:a+1=n+V:=by omega
   rw[hN]at hK⊢;refine(qBZ M1 L n V B C A D gf gd (aS L f) (aS L g) w hM kH (Ne.symm hne) hK hG (by omega) hnV (λi _=>H.cf i) (λi _=>H.cg i) hB mV hA).mono ?_;rintro e w' ⟨gt,rfl,h1,h2,h3,h4⟩
   have KP:∀b,(M1 b\/b=gt)->M1 b\/w.heap.size<=b:=λb hb=>hb.imp id λh=>by omega
   refine⟨gt,some ⟨gf,0,none⟩,n,n+V,iC n V (aS L g) (aS L f) V,rfl,h1,h3,(hG.more KP).kp (h4.block gd qmI (λe=>hne (Option.some.inj e).symm)) (Kp.grown h4 λk hk=>by cases hk;exact .inl kH),h2.pre (M':=λb=>M0 b\/b=gt) (λb hb=>.inl (hb.imp (Sc b) id)) (λhh=>hh.elim (bD.new KE) λe=>by have:=hK.lt;omega) (by omega) (by omega) (by unfold maxLen;omega),aA _,λi _=>rfl,af.refl _,hE.grown h4 λk hk=>by cases hk;exact KE⟩
structure LJ(M:Nat->Prop)(w:World)(x y:PE)(W:World):Prop where
 e:Ext w W
 px:P4 W w.heap.size x
 py:P4 W (w.heap.size+1) y
 bq:au W (w.heap.size+2) 42 4 (arr zA)
 br:au W (w.heap.size+3) 42 4 (arr zA)
 mb:Mb (Mx M w.heap.size (w.heap.size+4)) W
 sz:w.heap.size+4<=W.heap.size
theorem LJ.ext{M:Nat->Prop}{w W W':World}{x y:PE}(h:LJ M w x y W)(he:Ext W W'):LJ M w x y W':=
 ⟨h.e.trans he,h.px.ext he,h.py.ext he,h.bq.ext he,h.br.ext he,h.mb.ext he,aK h.sz he.size⟩
theorem qEX(f:Nat->Value)(hf:∀i,i<4->f i=arr zA i):∀i,i<4->uo f 0 (.int .i64 0) (.bool false) (.slice none 0 0) (.slice none 0 0) i=arr zA i:=by
 intro i hi
 match i,hi with
 |0,_=>exact D6 _ _ _ _ _ _
 |1,_=>exact D7 _ 0 _ _ _ _
 |2,_=>exact D8 _ 0 _ _ _ _
 |3,_=>exact D9 _ 0 _ _ _ _
theorem LJ.put{M:Nat->Prop}{w W:World}{x y:PE}(h:LJ M w x y W)(b:Nat)(hb:b=w.heap.size+2\/b=w.heap.size+3):LJ M w x y (aD W b 0 (.int .i64 0) (.bool false) (.slice none 0 0) (.slice none 0 0)):=by
 have sF:∀q,q≠b->(aD W b 0 (.int .i64 0) (.bool false) (.slice none 0 0) (.slice none 0 0)).heap[q]?=W.heap[q]?:=λq hq=>fD _ _ _ _ _ _ _ _ hq
 have hblk:∀q,(q=w.heap.size+2\/q=w.heap.size+3)->au W q 42 4 (arr zA)->au (aD W b 0 (.int .i64 0) (.bool false) (.slice none 0 0) (.slice none 0 0)) q 42 4 (arr zA):=λq _ hk=>by
  by_cases e:q=b
  ·subst e;exact(hk.aD 0 _ _ _ _).congr (qEX _ λ_ _=>rfl)
  ·exact hk.of_heap (sF q e)
 exact⟨h.e.aD (by omega) _ _ _ _ _,p9 h.px (sF _ (by omega)),p9 h.py (sF _ (by omega)),hblk _ (.inl rfl) h.bq,hblk _ (.inr rfl) h.br,h.mb.size (by rw[kN];exact aA _),by rw[kN];exact h.sz⟩
structure LK(B C A D:Nat):Prop where
 n1:B+(B+1)*C+(B+1)*C+C+B+2<=100000
 n2:(B+C+2)*(B+(B+1)*C+(B+1)*C+1)^4<=1099511627776
 n3:A+(B+1)*(D+1)+((B+1)*D+1)+D+10<=549755813888
def qgA(M:Nat->Prop)(w:World)(J:Nat)(f:List Tm)(e:Ending)(w':World):Prop:=∃(M1:Nat->Prop)(rv:Value),e=.returned rv/\Mb M1 w'/\(∀b,M b->M1 b)/\(∀b,M1 b->M b\/w.heap.size<=b)/\
 ((af f []/\rv=.slice none 0 0)\/(¬af f []/\∃a gf,rv=.slice (some ⟨gf,0,none⟩) (a+1) (a+1)/\w.heap.size<=gf/\M1 gf/\dJ J f a/\Kids M1 w' 4 gf (a+1) (aS J f)))/\Ext w w'
theorem que{M:Nat->Prop}{w:World}{J:Nat}(h1:1<=J)(h4:J<=4){f:List Tm}(hM:Mb M w){e:Ending}{w':World}(h:MH M w f (J:Int) e w'):qgA M w J f e w':=by
 obtain⟨hr,he⟩:=h;rcases hr with⟨hz,rfl⟩|⟨_,hl,_⟩|⟨hz,J',a,gf,hJ',_,_,rfl,KE,Di,RV⟩
 ·exact⟨M,_,rfl,hM.ext he,λ_ hb=>hb,λ_ hb=>.inl hb,.inl ⟨hz,rfl⟩,he⟩
 ·exact absurd ⟨by omega,by omega⟩ hl
 ·obtain rfl:J=J':=by omega
  exact⟨λb=>M b\/b=gf,_,rfl,Ij (hM.ext he) RV.lt,λ_ hb=>.inl hb,λb hb=>hb.imp id λe=>by omega,.inr ⟨hz,a,gf,rfl,KE,.inr rfl,Di,RV⟩,he⟩
def qgB(M:Nat->Prop)(w:World)(J:Nat)(g:List Tm)(e:Ending)(w':World):Prop:=∃n gd,e=.returned (.slice (some ⟨gd,0,none⟩) (n+1) (n+1))/\w.heap.size<=gd/\dJ J g n/\Kids (λb=>M b\/b=gd) w' 4 gd (n+1) (aS J g)/\Ext w w'
theorem qug{M:Nat->Prop}{w:World}{J:Nat}(h1:1<=J)(h4:J<=4){g:List Tm}(hz:¬af g []){e:Ending}{w':World}(h:MH M w g (J:Int) e w'):qgB M w J g e w':=by
 obtain⟨hr,he⟩:=h;rcases hr with⟨h,_⟩|⟨_,hl,_⟩|⟨_,J',n,gd,hJ',_,_,rfl,jc,wm,E9⟩
 ·exact absurd h hz
 ·exact absurd ⟨by omega,by omega⟩ hl
 ·obtain rfl:J=J':=by omega
  exact⟨n,gd,rfl,jc,wm,E9,he⟩
def RmO(M:Nat->Prop)(w':World)(f g:List Tm)(L:Int)(y:PE)(er:Int):Prop:=
 (¬(1<=L/\L<=4)/\er=4/\y=PE.z)\/((1<=L/\L<=4)/\af g []/\er=2/\y=PE.z)\/
 (∃J n V:Nat,L=J/\1<=J/\J<=4/\¬af g []/\dJ J g n/\Ck J f n V/\er=0/\aG M w' 4 y (ve J n V f g))
def Ve(M:Nat->Prop)(w:World)(f g:List Tm)(L:Int)(e:Ending)(w':World):Prop:=∃(y:PE)(er:Int),e=.returned (.tuple #[.agg (ag y),.int .i64 er])/\RmO M w' f g L y er/\Ext w w'
structure YM(T B C A D:Nat):Prop where
 n1:T<=300000/\B+T*C+C+10<=100000
 n2:(B+C+2)*(B+T*C+C+1)^4<=1099511627776
 n3:A+T*(D+1)+D+10<=549755813888
theorem qBU(T:Nat)(M:Nat->Prop)(x y:PE)(f g:List Tm)(L:Int)(B C A D:Nat)(w:World)(hM:Mb M w)(h:PI M w x f)(k:PI M w y g)(nf:NN f)(ng:NN g)(hB:bE B f)(hC:bE C g)(hA:aF (aB f)<=A)(hD:aF (aB g)<=D)(hN:YM T B C A D)(hT:∀J n V:Nat,L=J->dJ J g n->Ck J f n V->V<=T):
 Calls Tryz.prog 167 #[.agg (ag x),.agg (ag y),.int .i64 L] w (Ve M w f g L):=by
 obtain⟨aL,kr,uT,aW,bD⟩:=yI hM x y;have h0:=(h.more (M':=Mx M w.heap.size (w.heap.size+3)) (Mx.more (aA _))).ext aL;have k0:=(k.more (M':=Mx M w.heap.size (w.heap.size+3)) (Mx.more (aA _))).ext aL
 have jV:w.heap.size+3=((((w.alloc (.cells (ag x) 42)).alloc (.cells (ag y) 42)).alloc (.cells zA 42))).heap.size:=by simp
 generalize hW:((w.alloc (.cells (ag x) 42)).alloc (.cells (ag y) 42)).alloc (.cells zA 42)=W at*;have HW:=ae hW;have HE:=ae aL;have F5:Hid (P4 W w.heap.size x):=kr;have UI:Hid (P4 W (w.heap.size+1) y):=uT;have jP:=ae aW;have dQ:=ae bD;have HX:=ae h0;have HY:=ae k0;have ZM:=ae nf;have Ep:=ae ng;have HB:=ae hB;have HC:=ae hC;have HA:=ae hA;have tC:=ae hD;have HN:=ae hN;have HT:=ae hT;have hMw:∀b,M b->b<w.heap.size:=hM;have BO:=ae hMw;clear hW h0 k0 hM h k nf ng hB hC hA hD hN hT aL kr uT aW bD hMw
 go_enter Tryz.func167,Tryz.ntmps167
 go_upto_region 1 with(fail)
 rw[HW.out];clear HW
 by_cases hl:1<=L/\L<=4
 ·obtain⟨J,rfl⟩:∃J:Nat,L=J:=⟨L.toNat,by omega⟩;have HJ:Hid (1<=J/\J<=4):=⟨by omega,by omega⟩
  have hl1:¬(J:Int)<1:=by omega
  have KM:¬(4:Int)<(J:Int):=by omega
  obtain⟨y0,y1,y2,y3⟩:=UI.out;have nU:=(ai W).alloc (.cells (ag y) 42);have J8:=au.aO W (ag y) 42 4 rfl
  have hsW:w.heap.size+3<=W.heap.size:=by omega
  clear hl jV;go_wp2_with (fail);refine(qqk (Mx M w.heap.size (w.heap.size+3)) y g W.heap.size 0 1 _ (dQ.out.ext nU) J8.p4 J8.lt (HY.out.ext nU)).mono ?_;rintro e w1 ⟨er,rfl,bT,ah⟩;have E5:=nU.trans ah;have aP:=ae (HE.out.trans E5);have ZX:Hid (P4 w1 w.heap.size x):=F5.out.ext E5;have ZY:Hid (P4 w1 (w.heap.size+1) y):=UI.out.ext E5;have Ua:=ae (jP.out.ext E5);have qU:=ae (dQ.out.ext E5);have nJ:=ae (HX.out.ext E5);have uH:=ae (HY.out.ext E5)
  have dI:w.heap.size+3<=w1.heap.size:=by have:=E5.size;omega
  clear y0 y1 y2 y3 nU J8 ah E5 HE F5 UI jP dQ HX HY hsW;rcases bT with⟨rfl,hz⟩|⟨rfl,hz⟩
  ·obtain⟨⟨q0,q1,q2,q3⟩,⟨f0,f1,f2,f3⟩,⟨r0,r1,r2,r3⟩,HF⟩:=gI (M:=M) (M':=Mx M w.heap.size (w.heap.size+3)) (w:=w) (L:=0) (l:=[]) (y:=PE.z) Ua.out (Mx.at (by omega)) (by omega) aP.out (CR.zero _ _ 0) Mx.sub;obtain⟨_,_,_,bN⟩:=HF;have bQ:Hid (Ve M w f g J (.returned (.tuple #[.agg (ag PE.z),.int .i64 2])) _):=⟨PE.z,2,rfl,.inr (.inl ⟨⟨by have:=HJ.out;omega,by have:=HJ.out;omega⟩,hz,rfl,rfl⟩),bN⟩;simp only[PE.z]at r0 r1 r2 r3
   have iy:w.heap.size+2<w1.heap.size:=by omega
   clear bN Ua aP qU nJ uH ZX ZY hz;go_wp2;exact aV (v:=.tuple #[.agg (ag PE.z),.int .i64 2]) (by simp[results,Tryz.results167,go_sem,r0,r1,r2,r3,PE.z]) rfl bQ.out
  ·have HZ:=ae hz;clear hz;have ll:=HN.out.n1
   have gY:Hid ((B+1)^4<=1099511627776):=by
    have h2:=HN.out.n2;refine aK ?_ h2;refine aK (Nat.pow_le_pow_left (show B+1<=B+T*C+C+1 by omega) 4) (Nat.le_mul_of_pos_left _ (by omega))
   have CU:Hid ((C+1)^4<=1099511627776):=by
    have h2:=HN.out.n2;refine aK ?_ h2;refine aK (Nat.pow_le_pow_left (show C+1<=B+T*C+C+1 by omega) 4) (Nat.le_mul_of_pos_left _ (by omega))
   have hCn:Hid (C+1<=1073741824/\B+1<=1073741824):=⟨by omega,by omega⟩
   have hR:Hid (aF (aB g)<=1099511627776/\aF (aB f)<=1099511627776):=by
    have h3:=HN.out.n3
    have hd1:D<=1099511627776:=by omega
    have EX:A<=1099511627776:=by omega
    exact⟨aK tC.out hd1,aK HA.out EX⟩
   have hd:=(ai w1).drew;have hS:jo w.heap.size x y w1.drew:=⟨ZX.out.ext hd,ZY.out.ext hd⟩;have aZ:=ae (aP.out.trans hd);have qgV:=ae (Ua.out.ext hd);have iQ:=ae (qU.out.ext hd);have nK:=ae (nJ.out.ext hd);have qw:=ae (uH.out.ext hd);have hs2:w.heap.size+3<=w1.drew.heap.size:=aK dI hd.size;clear ll hd ZX ZY aP Ua qU nJ uH
   go_upto_region 6 with(fail)
   refine fB (jo w.heap.size x y) 12 hS λhHeld=>?_;clear hS;generalize w1.drew=wd at*;have C1:Hid (Calls Tryz.prog 99 #[.agg (ag x),.int .i64 (J:Int)] wd (qgA (Mx M w.heap.size (w.heap.size+3)) wd J f)):=(XI (Mx M w.heap.size (w.heap.size+3)) x f J B wd iQ.out nK.out HB.out gY.out hCn.out.2 hR.out.2).mono λe w' h=>que HJ.out.1 HJ.out.2 iQ.out h;refine bH [0,1,3,4] ?_;(iterate 4 refine bG ?_);refine bI ?_
   (refine aI 2 λK hK=>?_);go_simp;(refine(C1.out).mono ?_);rintro e_ u1 ⟨M1,rv,rfl,kG,Sc,hbk,bn,kS⟩;go_wp2_with (fail);(try clear ak);(refine ny hK (hHeld.ext kS) λak=>?_);clear hK K
   have C2:Hid (Calls Tryz.prog 99 #[.agg (ag y),.int .i64 (J:Int)] u1 (qgB M1 u1 J g)):=(XI M1 y g J C u1 kG ((qw.out.more hbk).ext kS) HC.out CU.out hCn.out.1 hR.out.1).mono λe w' h=>qug HJ.out.1 HJ.out.2 HZ.out h
   (refine aI 5 λK hK=>?_);go_simp;(refine(C2.out).mono ?_);rintro e_ u2 ⟨n,gd,rfl,jc,wm,E9,vP⟩;go_wp2_with (fail);(try clear ak);(refine ny hK (hHeld.ext (kS.trans vP)) λak=>?_);clear hK K
   have dz:Mb (λb=>M1 b\/b=gd) u2:=Ij (kG.ext vP) E9.lt
   have iw:∃V,Ck J f n V/\((af f []/\rv=.slice none 0 0)\/(¬af f []/\∃a gf,rv=.slice (some ⟨gf,0,none⟩) (a+1) (a+1)/\wd.heap.size<=gf/\gf≠gd/\(M1 gf\/gf=gd)/\dJ J f a/\Kids (λb=>M1 b\/b=gd) u2 4 gf (a+1) (aS J f))):=by
    rcases bn with⟨hz,hv⟩|⟨hz,a,gf,hv,KE,Od,Di,RV⟩
    ·exact⟨0,.inl ⟨hz,rfl⟩,.inl ⟨hz,hv⟩⟩
    ·have Ha:=RV.lt;exact⟨a+1-n,.inr ⟨hz,a,Di,rfl⟩,.inr ⟨hz,a,gf,hv,KE,by omega,.inl Od,Di,(RV.more (M':=λb=>M1 b\/b=gd) λb hb=>hb.imp id λe=>by omega).ext vP⟩⟩
   obtain⟨V,WV,qmy⟩:=iw;have hV:=HT.out J n V rfl wm WV;have hn:n<=C:=VA wm HC.out;have hPC:V*C<=T*C:=fq C hV;have hPD:V*(D+1)<=T*(D+1):=fq (D+1) hV;have Rs:=HN.out.n1;have hN3:=HN.out.n3;have NG:Ce J n V B C A D f g:=⟨HJ.out.1,HJ.out.2,ZM.out,Ep.out,HB.out,HC.out,HA.out,tC.out,wm,WV⟩;have hmul:∀a b:Nat,a<=100000->b<=100000->a*b<=1099511627776:=λa b ha hb=>aK (Nat.mul_le_mul ha hb) (by decide);have C3:=ae (qB0 (Mx M w.heap.size (w.heap.size+3)) (λb=>M1 b\/b=gd) wd u2 J n V B C A D gd f g rv (kS.trans vP) dz iQ.out (λb hb=>.inl (Sc b hb)) NG E9 qmy (by omega) (by omega) (hmul _ _ (by omega) (by omega)) (by omega));have PY:Hid (V<=T/\n<=C/\V*C<=T*C/\V*(D+1)<=T*(D+1)):=⟨hV,hn,hPC,hPD⟩;have yt:=ae NG;have kR:=ae WV;have jK:=ae wm;have om:wd.heap.size<=u2.heap.size:=(kS.trans vP).size;clear hV hn hPC hPD Rs hN3 NG hmul WV wm bn qmy E9 dz jc C1 C2 kG Sc hbk
   (refine aI 6 λK hK=>?_);go_simp;(refine(C3.out).mono ?_);rintro e_ u3 ⟨gt,ra,rn,rc,R,rfl,jT,hT,hG4,hrow,hrn,NJ,hRs,bg⟩;go_wp2_with (fail);(try clear ak);(refine ny hK (hHeld.ext bg) λak=>?_);clear hK K
   refine bH [7,8,9,10,11] ?_;(iterate 5 refine bG ?_);refine bI ?_;refine kP ?_;have h1:=HN.out.n1;have h2:=HN.out.n2;have h3:=HN.out.n3;have h5:=PY.out;have oL:Mb (Mx M w.heap.size (w.heap.size+3)) u3:=iQ.out.ext bg;have qei:∀a b:Nat,a<=B+C+2->b<=B+T*C+C->a*(b+1)^4<=1099511627776:=λa b ha hb=>aK (Nat.mul_le_mul ha (Nat.pow_le_pow_left (by omega) 4)) h2;have qnN:dP (Mx M w.heap.size (w.heap.size+3)) u3 4 (.slice ra rn rc) rn R:=hrow.more λb hb=>.inl (.inl hb)
   have hRc:∀i,i<rn->fU J (B+V*C) (A+V*(D+1)) (R i):=λi hi=>by rw[NJ i hi];exact yt.out.rest i (by omega)
   have CJ:=ae (qpd (L:=J) (S:=B+V*C) (A:=A+V*(D+1)) u3 oL qnN HJ.out.1 HJ.out.2 (λi hi=>(hRc i hi).2.2.1) (qei _ _ (by omega) (by omega)) (by omega) (λi hi=>(hRc i hi).2.2.2) (by omega));have dK:=ae (aZ.out.trans bg);have qgW:=ae (qgV.out.ext bg);have HRS:=ae hRs;have mJ:w.heap.size+3<=u3.heap.size:=aK hs2 bg.size;clear h1 h2 h3 h5 oL qei qnN hRc hT hG4 hrow hrn NJ hRs kS vP bg C3 hHeld ak aZ qgV iQ nK qw jT;go_wp2_with (fail);refine CJ.out.mono ?_;rintro e w9 ⟨r,rfl,hr,mG⟩;have KV:aG (Mx M w.heap.size (w.heap.size+3)) w9 4 r (ve J n V f g):=hr.bP HRS.out;obtain⟨⟨q0,q1,q2,q3⟩,⟨f0,f1,f2,f3⟩,⟨r0,r1,r2,r3⟩,HF⟩:=gI (M:=M) (M':=Mx M w.heap.size (w.heap.size+3)) (w:=w) (qgW.out.ext mG) (Mx.at (by omega)) (by omega) (dK.out.trans mG) KV Mx.sub;obtain⟨yy,Fp,Dh,bN⟩:=HF
   obtain rfl:r=yy:=by
    simp only[ag,Ending.returned.injEq,Value.agg.injEq,Array.mk.injEq,List.cons.injEq,Value.int.injEq,Value.bool.injEq,Value.slice.injEq,true_and,and_true]at Fp;cases r;cases yy;simp only at Fp;simp[Fp]
   have bQ:Hid (Ve M w f g J (.returned (.tuple #[.agg (ag r),.int .i64 0])) _):=⟨r,0,rfl,.inr (.inr ⟨J,n,V,rfl,HJ.out.1,HJ.out.2,HZ.out,jK.out,kR.out,rfl,Dh⟩),bN⟩
   have iy:w.heap.size+2<w9.heap.size:=by have:=mG.size;omega
   clear bN Dh KV hr mG dK qgW CJ;go_wp2;exact aV (v:=.tuple #[.agg (ag r),.int .i64 0]) (by simp[results,Tryz.results167,go_sem,r0,r1,r2,r3]) rfl bQ.out
 ·have HL:=ae hl;obtain⟨⟨q0,q1,q2,q3⟩,⟨f0,f1,f2,f3⟩,⟨r0,r1,r2,r3⟩,HF⟩:=gI (M:=M) (M':=Mx M w.heap.size (w.heap.size+3)) (w:=w) (L:=0) (l:=[]) (y:=PE.z) jP.out (Mx.at (by omega)) (by omega) HE.out (CR.zero _ _ 0) Mx.sub;obtain⟨_,_,_,bN⟩:=HF;have bQ:Hid (Ve M w f g L (.returned (.tuple #[.agg (ag PE.z),.int .i64 4])) _):=⟨PE.z,4,rfl,.inl ⟨hl,rfl,rfl⟩,bN⟩;simp only[PE.z]at r0 r1 r2 r3
  have iy:w.heap.size+2<W.heap.size:=by omega
  clear bN
  by_cases hl1:L<1
  case' pos=>clear hl
  case' neg=>
   have KM:4<L:=by omega
   clear hl
  all_goals
   clear jP HE dQ HX HY F5 UI HL jV;go_wp2;exact aV (v:=.tuple #[.agg (ag PE.z),.int .i64 4]) (by simp[results,Tryz.results167,go_sem,r0,r1,r2,r3,PE.z]) rfl bQ.out
theorem LK.m{B C A D:Nat}(h:LK B C A D):YM (B+1) B C A D:=by
 have h1:=h.n1;have h3:=h.n3;have hC:C<=(B+1)*C:=Nat.le_mul_of_pos_left _ (by omega);exact⟨⟨by omega,by omega⟩,aK (Nat.mul_le_mul_left _ (Nat.pow_le_pow_left (by omega) 4)) h.n2,by omega⟩
def DJ(W:World)(f g:List Tm)(L:Int)(q r s:PE)(er xr:Int):Prop:=er=xr/\∃ql rl,aG M0 W 4 q ql/\aG M0 W 4 r rl/\aG M0 W 4 s rl/\
 ((¬(1<=L/\L<=4)/\er=4/\ql=[]/\rl=[])\/((1<=L/\L<=4)/\af g []/\er=2/\ql=[]/\rl=[])\/(∃J n V:Nat,L=J/\1<=J/\J<=4/\¬af g []/\dJ J g n/\Ck J f n V/\er=0/\ql=qBz J n V f g/\rl=ve J n V f g))
theorem DJ.ext{W W':World}{f g:List Tm}{L:Int}{q r s:PE}{er xr:Int}(h:DJ W f g L q r s er xr)(he:Ext W W'):DJ W' f g L q r s er xr:=by
 obtain⟨h1,ql,rl,h2,h3,h4,h5⟩:=h;exact⟨h1,ql,rl,h2.ext he,h3.ext he,h4.ext he,h5⟩
structure SmD(B:Nat)(l:List Tm):Prop where
 nn:NN l
 deg:bE B l
 dl:aF (aB l)<=5
def IP(J:Nat)(l:List Tm)(z:Int):Prop:=(af l []/\z= -1)\/(¬af l []/\∃a:Nat,dJ J l a/\z=(a:Int))
theorem Ik(M:Nat->Prop)(x:PE)(l:List Tm)(J:Nat)(z:Int)(w:World)(h1:1<=J)(h4:J<=4)(nl:NN l)(hz:IP J l z)(hM:Mb M w)(h:PI M w x l):Calls Tryz.prog 14 #[.agg (ag x),.int .i64 (J:Int)] w λe w'=>e=.returned (.int .i64 z)/\Ext w w':=by
 refine(qAv M x l (J:Int) w hM h).mono ?_;rintro e w' ⟨z',rfl,hr,he⟩;refine⟨?_,he⟩
 congr 2
 rcases hz with⟨hz,rfl⟩|⟨hz,a,ha,rfl⟩
 ·rcases hr with⟨_,rfl⟩|⟨k,_⟩|⟨k,_⟩
  ·rfl
  ·exact absurd hz k
  ·exact absurd hz k
 ·rcases hr with⟨k,_⟩|⟨_,k,_⟩|⟨_,J',b,k0,_,_,rfl,hb,_⟩
  ·exact absurd k hz
  ·exact absurd ⟨by omega,by omega⟩ k
  ·obtain rfl:J=J':=by omega
   rw[Nh nl hz ha hb]
theorem qpe(M:Nat->Prop)(x:PE)(l:List Tm)(J n:Nat)(B:Nat)(w:World)(h1:1<=J)(h4:J<=4)(nl:NN l)(hz:¬af l [])(hd:dJ J l n)(hM:Mb M w)(h:PI M w x l)(hB:bE B l)(gY:(B+1)^4<=1099511627776)(bJ:B+1<=1073741824)(hR:aF (aB l)<=1099511627776):Calls Tryz.prog 66 #[.agg (ag x),.int .i64 (J:Int)] w (di M w 4 (ck J (n:Int) l)):=by
 refine(qAz M x l (J:Int) B w hM h hB gY bJ hR).mono ?_;rintro e w' ⟨v,s,rfl,hv,hs,he⟩;rcases hs with⟨k,_⟩|⟨_,k,_⟩|⟨_,J',b,k0,_,_,hb,rfl⟩
 ·exact absurd k hz
 ·exact absurd ⟨by omega,by omega⟩ k
 ·obtain rfl:J=J':=by omega
  rw[Nh nl hz hd hb];exact⟨v,rfl,hv,he⟩
end Go.Proofs.YtaafefeafonhdaaGreat
