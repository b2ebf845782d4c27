import Derived.RunT
import Derived.Calls
import Derived.Test.YtjmekckcffckoaaDoorVmQ
import Derived.Sort.Grow
import Derived.Shelf.GgSortFunc.RowK
import Derived.Test.YtjmekckcffckoaaDoorVmG
import Derived.Shelf.SlSortCmp.NoneTotal
set_option linter.all false
namespace Go.VM
open Go
theorem ask_drawn {α:Type}:∀ (a:Ask α) (w:World),w.drawn ≤ (w.ask a).2.drawn
  | .done a,w=>Nat.le_refl _
  | .ask what range k,w=>by
    unfold World.ask
    simp only
    split
    · exact ask_drawn (k 0) w
    · exact Nat.le_trans (Nat.le_succ _) (ask_drawn (k _) { w with drawn:=w.drawn + 1 })
theorem sys_drawn (w:World) (c:Sys):w.drawn ≤ (w.sys c).2.drawn:=by
  unfold World.sys
  have:=ask_drawn (Kernel.perform c w.os) w
  split
  · exact Nat.le_refl _
  · rename_i h; rw [h] at this; exact this
def Rwd {α:Type}:Result α → Nat
  | .ok _ w=>w.drawn
  | .halt _ w=>w.drawn
theorem viewStore_drawn {p:Program} {w w':World} {at_:Addr} {u:TypeId} {k:Addr} {v:Value} {b:Bool} {l:List Addr} (h:w.viewStore p at_ u k v b = .ok (w',l)):w'.drawn = w.drawn:=by
  unfold World.viewStore at h
  simp only [bind,Except.bind,pure,Except.pure,throw,throwThe,MonadExceptOf.throw] at h
  repeat' split at h
  all_goals first
    | (cases h; done)
    | (simp only [Except.ok.injEq,Prod.mk.injEq] at h; obtain ⟨rfl,_⟩:=h; rfl)
theorem farStore_drawn {p:Program} {w w':World} {a:Addr} {v:Value} {b:Bool} {l:List Addr} (h:w.farStore p a v b = .ok (w',l)):w'.drawn = w.drawn:=by
  unfold World.farStore at h
  split at h
  · split at h
    · rename_i r hr; simp only [Except.ok.injEq] at h; subst h; exact viewStore_drawn hr
    · cases h
  · cases h
theorem freeze_drawn (w:World) (a:Addr) (n:Nat):(w.freeze a n).drawn = w.drawn:=by unfold World.freeze; split <;> rfl
theorem Za6 {α:Type} {p:Program}:∀ (m:Sem α) (w:World),w.drawn ≤ Rwd (m.run p w)
  | .pure a,w=>Nat.le_refl _
  | .load m a k,w=>by
    simp only [Sem.run]
    split
    · exact Za6 _ w
    · split
      · exact Za6 _ w
      · exact Nat.le_refl _
  | .store m a v k,w=>by
    have key : w.drawn ≤ Rwd (match w.cell? a with
        | some _ => if w.frozen? a then .halt (.unsupported (.unsafePointer "a write to bytes that a string shares")) w else k.run p (w.setCell a v)
        | none=>match w.farStore p a v (m == .atomic) with
          | .ok (w,_)=>k.run p w
          | .error h=>.halt h w:Result α):=by
      split
      · split
        · exact Nat.le_refl _
        · exact Za6 k (w.setCell a v)
      · split
        · rename_i h; rw [← farStore_drawn h]; exact Za6 k _
        · exact Nat.le_refl _
    cases v <;> first | exact key | exact Nat.le_refl _
  | .new o k,w=>Za6 (k _) { w with heap:=w.heap.push o }
  | .shape r k,w=>Za6 (k _) w
  | .freeze a n k,w=>by rw [← freeze_drawn w a n]; exact Za6 k _
  | .frozen a k,w=>Za6 (k _) w
  | .getObj r k,w=>by
    simp only [Sem.run]
    split
    · exact Nat.le_refl _
    · exact Za6 _ w
    · exact Nat.le_refl _
  | .setObj r o k,w=>by
    simp only [Sem.run]
    split
    · exact Nat.le_refl _
    · exact Za6 k { w with heap:=w.heap.setIfInBounds r o }
    · exact Nat.le_refl _
  | .choose q k,w=>by
    simp only [Sem.run]
    split
    · exact Za6 _ w
    · exact Nat.le_trans (Nat.le_succ _) (Za6 (k _) { w with drawn:=w.drawn + 1 })
  | .sys c k,w=>Nat.le_trans (sys_drawn w c) (Za6 (k _) _)
  | .program k,w=>Za6 (k p) w
  | .mark _ k,w=>Za6 k w
  | .halt h,w=>Nat.le_refl _
theorem Zat {α:Type} {p:Program} {m:Sem α} {w w':World} {v:α} (h:m.run p w = .ok v w'):w.drawn ≤ w'.drawn:=by have:=Za6 (p:=p) m w; rw [h] at this; exact this
theorem run_halt_drawn {α:Type} {p:Program} {m:Sem α} {w w':World} {v:Halt} (h:m.run p w = .halt v w'):w.drawn ≤ w'.drawn:=by have:=Za6 (p:=p) m w; rw [h] at this; exact this
theorem runT_drawn {α:Type} {p:Program} (m:Sem α) (w:World) (es:Array Event):w.drawn ≤ Rwd (m.runT p w es).1:=by
  rw [Sem.runT_fst]; exact Za6 m w
theorem runT_ok_drawn' {α:Type} {p:Program} {m:Sem α} {w w':World} {es:Array Event} {v:α} (h:(m.runT p w es).1 = .ok v w'):w.drawn ≤ w'.drawn:=by have:=runT_drawn (p:=p) m w es; rw [h] at this; exact this
theorem runT_halt_drawn' {α:Type} {p:Program} {m:Sem α} {w w':World} {es:Array Event} {v:Halt} (h:(m.runT p w es).1 = .halt v w'):w.drawn ≤ w'.drawn:=by have:=runT_drawn (p:=p) m w es; rw [h] at this; exact this
theorem runT_ok_drawn {α:Type} {p:Program} {m:Sem α} {w w':World} {es es':Array Event} {v:α} (h:m.runT p w es = (.ok v w',es')):w.drawn ≤ w'.drawn:=runT_ok_drawn' (by rw [h])
theorem runT_halt_drawn {α:Type} {p:Program} {m:Sem α} {w w':World} {es es':Array Event} {v:Halt} (h:m.runT p w es = (.halt v w',es')):w.drawn ≤ w'.drawn:=runT_halt_drawn' (by rw [h])
def GUp (d:Nat):GStep → Prop
  | .go _ w _ | .comm _ _ _ _ w _ | .spawn _ _ w _ | .count _ w _ | .timer _ _ w _ | .alone _ _ w _ | .newcoro _ _ _ w _ | .coroswitch _ _ _ w _ | .collect _ w _ | .watch _ w _=>d ≤ w.drawn
  | .ended ..=>True
theorem GUp.after {d:Nat} {s:GStep} (es:Array Event) (h:GUp d s):GUp d (GStep.after es s):=by cases s <;> exact h
theorem GUp.le {d d':Nat} {s:GStep} (h:GUp d' s) (hd:d ≤ d'):GUp d s:=by cases s <;> first | exact Nat.le_trans hd h | trivial
theorem GUp.ite {d:Nat} {c:Prop} [Decidable c] {a b:GStep} (h1:c → GUp d a) (h2:¬ c → GUp d b):GUp d (if c then a else b):=by
  split
  · exact h1 ‹_›
  · exact h2 ‹_›
theorem gup_doReturn (p:Program) (main:Bool) (fr:Frame) (callers:List Frame) (dying:Option Dying) (v:Value) (w:World):GUp w.drawn (doReturn p main fr callers dying v w):=by
  unfold doReturn
  repeat' split
  all_goals first | trivial | exact Nat.le_refl _
theorem gup_endThrow (fr:Frame) (m:String) (w:World):GUp w.drawn (endThrow fr m w):=Nat.le_refl _
theorem gup_endPrinting (p:Program) (fr:Frame) (v:Value) (w:World):GUp w.drawn (endPrinting p fr v w):=by
  unfold endPrinting
  simp only
  split
  · exact gup_endThrow _ _ _
  · trivial
theorem gup_endWith (w:World) (fd:Nat) (text:ByteArray) (o:Outcome):GUp w.drawn (endWith w fd text o):=by
  unfold endWith
  simp only
  repeat' split
  all_goals trivial
theorem gup_endFatal (p:Program) (fr:Frame) (callers:List Frame) (dying:Option Dying) (m:String) (w:World):GUp w.drawn (endFatal p fr callers dying m w):=by
  unfold endFatal
  simp only
  split
  · rename_i h; exact Zat h
  · trivial
  · trivial
theorem gup_writeOn (p:Program) (fr:Frame) (d:Dying) (f:Fatal) (w:World):GUp w.drawn (writeOn p fr d f w):=by
  unfold writeOn
  simp only
  split
  · trivial
  · split
    · rename_i h; exact runT_ok_drawn h
    · rename_i h; exact runT_halt_drawn h
    · trivial
    · trivial
theorem gup_die (p:Program) (fr:Frame) (d:Dying) (w:World):GUp w.drawn (die p fr d w):=by
  unfold die
  split
  · exact gup_writeOn _ _ _ _ _
  · split
    · split
      · exact Nat.le_refl _
      · exact gup_endWith _ _ _ _
    · simp only
      split
      · exact Nat.le_refl _
      · split
        · rename_i h; exact Zat h
        · trivial
      · refine GUp.after _ ?_
        split
        · rename_i h; exact runT_ok_drawn' h
        · rename_i h; exact runT_ok_drawn' h
        · trivial
        · rename_i h; exact (gup_endPrinting _ _ _ _).le (runT_halt_drawn' h)
        · trivial
      · trivial
theorem gup_callDeferred (p:Program) (fr:Frame) (callers:List Frame) (dying:Option Dying) (d:Deferred) (w:World):GUp w.drawn (callDeferred p fr callers dying d w):=by
  unfold callDeferred
  refine GUp.ite (fun _=>trivial) (fun _=>?_)
  · refine GUp.after _ ?_
    split
    all_goals first
      | trivial
      | (rename_i h; exact runT_ok_drawn' h)
      | (rename_i h; exact runT_halt_drawn' h)
      | (rename_i h; exact (gup_endFatal _ _ _ _ _ _).le (runT_halt_drawn' h))
      | (rename_i h; exact (gup_endThrow _ _ _).le (runT_halt_drawn' h))
      | (rename_i h; split <;> exact runT_ok_drawn' h)
theorem gup_unwind (p:Program) (main:Bool) (fr:Frame) (callers:List Frame) (dying:Option Dying) (w:World):GUp w.drawn (unwind p main fr callers dying w):=by
  unfold unwind
  split
  · simp only
    refine GUp.after _ ?_
    split
    · rename_i h; exact runT_ok_drawn' h
    · trivial
  · exact gup_callDeferred _ _ _ _ _ _
  · split
    · trivial
    · split
      · trivial
      · split
        · exact Nat.le_refl _
        · split
          · split
            · exact Nat.le_refl _
            · split
              · rename_i h; exact Zat h
              · trivial
              · trivial
          · split
            · exact gup_endPrinting _ _ _ _
            · trivial
    · split
      · exact gup_doReturn _ _ _ _ _ _ _
      · simp only
        refine GUp.after _ ?_
        split
        · rename_i h; exact (gup_doReturn _ _ _ _ _ _ _).le (runT_ok_drawn' h)
        · trivial
        · trivial
theorem gup_early (p:Program) (fr:Frame) (callers:List Frame) (dying:Option Dying) (g:Nat) (w:World):GUp w.drawn (early p fr callers dying g w):=by
  have ny:∀ w1:World,w.drawn ≤ w1.drawn → GUp w.drawn (match w1.heap[g]? with
    | some (.pending c elem)=>GStep.go { frame:=fr,callers,status:=.running,dying } { w1 with heap:=w1.heap.setIfInBounds g (.cells c elem) } #[]
    | _ => .ended (.stuck "early: the variable does not wait" (fr.pos p)) w1 #[]) := fun w1 h => by
    split
    · exact h
    · trivial
  unfold early
  simp only
  repeat' split
  all_goals first
    | trivial
    | exact ny _ (Nat.le_refl _)
    | exact Nat.le_refl _
    | (rename_i h; exact Zat h)
    | (rename_i wx h1 x c e h2; exact (Zat h1:w.drawn ≤ wx.drawn))
theorem gup_apply (p:Program) (listen:Bool) (fr:Frame) (callers:List Frame) (dying:Option Dying) (s:Sem Next) (w:World):GUp w.drawn (stepG.apply p listen fr callers dying s w):=by
  unfold stepG.apply
  simp only
  refine GUp.after _ ?_
  have hr:w.drawn ≤ Rwd (if listen = true then s.runT p w #[] else (s.run p w,#[])).1:=by
    split
    · exact runT_drawn _ _ _
    · exact Za6 _ _
  generalize (if listen = true then s.runT p w #[] else (s.run p w,#[])).1 = r at hr ⊢
  have hok:∀ v w',r = .ok v w' → w.drawn ≤ w'.drawn:=fun v w' e=>by rw [e] at hr; exact hr
  have hh:∀ v w',r = .halt v w' → w.drawn ≤ w'.drawn:=fun v w' e=>by rw [e] at hr; exact hr
  clear hr
  split
  all_goals first
    | trivial
    | exact hok _ _ rfl
    | exact hh _ _ rfl
    | exact (gup_endFatal _ _ _ _ _ _).le (hh _ _ rfl)
    | exact (gup_endThrow _ _ _).le (hh _ _ rfl)
    | exact (gup_early _ _ _ _ _ _).le (hh _ _ rfl)
    | (split <;> exact hok _ _ rfl)
    | (refine GUp.ite (fun _=>(gup_endThrow _ _ _).le (hok _ _ rfl)) (fun _=>hok _ _ rfl))
theorem gup_oper (p:Program) (listen:Bool) (fr:Frame) (callers:List Frame) (dying:Option Dying) (w:World):GUp w.drawn (stepG.oper p listen fr callers dying w):=by
  unfold stepG.oper
  split
  · trivial
  · split <;> exact gup_apply _ _ _ _ _ _ _
theorem gup_exec (p:Program) (main listen:Bool) (fr:Frame) (callers:List Frame) (dying:Option Dying) (w:World):GUp w.drawn (stepG.exec p main listen fr callers dying w):=by
  have leave : ∀ (c : Prop) [Decidable c] (jump : Option Code), GUp w.drawn (match fr.roundOf with
      | none => if c then GStep.go { frame := { fr with mode := .returning }, callers, status := .running, dying } w #[] else .ended (.stuck "exit, goto: no such block or label" (fr.pos p)) w #[]
      | some l =>
        GStep.after (seen p fr.fn ((Instr.endRound l jump).runT p w #[]).2) <| match ((Instr.endRound l jump).runT p w #[]).1 with
        | .ok v w=>doReturn p main fr callers dying v w
        | .halt _ w => .ended (.stuck "range over a function: no such loop" (fr.pos p)) w #[]) := fun c _ jump => by
    split
    · refine GUp.ite (fun _=>Nat.le_refl _) (fun _=>trivial)
    · refine GUp.after _ ?_
      split
      · rename_i h; exact (gup_doReturn _ _ _ _ _ _ _).le (runT_ok_drawn' h)
      · trivial
  unfold stepG.exec
  simp only
  split
  all_goals first
    | exact Nat.le_refl _
    | trivial
    | exact leave _ _
    | exact gup_apply _ _ _ _ _ _ _
    | skip
  · split
    · exact Nat.le_refl _
    · trivial
  · generalize exitTo _ _ = x
    cases x with
    | none=>exact leave _ _
    | some k=>exact Nat.le_refl _
  · generalize gotoIn _ _ = x
    cases x with
    | none=>exact leave _ _
    | some k=>exact Nat.le_refl _
  · refine GUp.after _ ?_
    split
    · rename_i h; exact (gup_apply _ _ _ _ _ _ _).le (runT_ok_drawn' h)
    · trivial
  · refine GUp.after _ ?_
    split
    · rename_i h; exact runT_ok_drawn' h
    · rename_i h; exact runT_halt_drawn' h
    · trivial
  · generalize Extern.next _ = x
    cases x with
    | none=>trivial
    | some e=>exact gup_apply _ _ _ _ _ _ _
  · refine GUp.ite (fun _=>Nat.le_refl _) (fun _=>?_)
    split
    · rename_i h; exact Zat h
    · trivial
  · exact GUp.ite (fun _=>gup_oper _ _ _ _ _ _) (fun _=>Nat.le_refl _)
theorem gup_stepG (p:Program) (main:Bool) (g:Goroutine) (w:World) (listen:Bool):GUp w.drawn (stepG p main g w listen):=by
  unfold stepG
  simp only
  split
  · exact gup_die _ _ _ _
  · exact gup_exec _ _ _ _ _ _ _
  · exact gup_unwind _ _ _ _ _ _
def MUp (d:Nat):Stepped → Prop
  | .next m=>d ≤ m.world.drawn
  | .ended ..=>True
theorem MUp.le {d d':Nat} {s:Stepped} (h:MUp d' s) (hd:d ≤ d'):MUp d s:=by cases s <;> first | exact Nat.le_trans hd h | trivial
theorem MUp.ite {d:Nat} {c:Prop} [Decidable c] {a b:Stepped} (h1:c → MUp d a) (h2:¬ c → MUp d b):MUp d (if c then a else b):=by
  split
  · exact h1 ‹_›
  · exact h2 ‹_›
theorem mup_look (p:Program) (gs:Array Goroutine) (rest:Rest) (w:World):MUp w.drawn (look p gs rest w):=by
  unfold look
  split
  · simp only
    refine MUp.ite (fun _=>trivial) (fun _=>?_)
    split
    · trivial
    · split
      · rename_i h; exact (Zat h:_)
      · trivial
      · trivial
  · trivial
theorem waiting_drawn {rest:Rest} {cases:Array CommCase} {w w':World} (h:waitingAt rest cases w = some w'):w.drawn ≤ w'.drawn:=by
  unfold waitingAt at h
  split at h
  · split at h
    · simp only [Option.some.injEq] at h; subst h; exact Nat.le_refl _
    · cases h
  · simp only [Option.some.injEq] at h; subst h; exact Nat.le_refl _
theorem mup_communicate (p:Program) (rest:Rest) (gs:Array Goroutine) (i:Nat) (g:Goroutine) (cases:Array CommCase) (blocking:Bool) (shape:CommShape) (w:World):MUp w.drawn (communicate p rest gs i g cases blocking shape w).1:=by
  unfold communicate
  simp only
  repeat' split
  all_goals first
    | trivial
    | exact Nat.le_refl _
    | exact waiting_drawn ‹_›
    | (have h1 := Zat ‹Sem.run p _ w = Result.ok _ _›
       first
         | exact h1
         | (have h2:=run_halt_drawn ‹Sem.run p (runtimePanic _) _ = Result.halt _ _›; exact Nat.le_trans h1 h2)
         | (have h2:=Zat ‹Sem.run p (choose _) _ = Result.ok _ _›; exact Nat.le_trans h1 h2))
theorem mup_timerOp (m m':Machine) (op:TimerOp) (v:Value) (h:timerOp m op = .ok (v,m')):m'.world.drawn = m.world.drawn:=by
  have hdr:∀ w c,(drain w c).2.drawn = w.drawn:=fun w c=>by unfold drain; split <;> rfl
  have hre:∀ (m:Machine) k t a b,(retime m k t a b).2.world.drawn = m.world.drawn:=fun m k t a b=>by
    unfold retime
    cases t.chan with
    | none=>rfl
    | some c=>exact hdr _ _
  have hnm:∀ (m0:Machine) var (f:Nat → Timer → Value × Machine),(∀ k t,(f k t).2.world.drawn = m.world.drawn) → timerOp.named m0 var f = .ok (v,m') → m'.world.drawn = m.world.drawn:=fun m0 var f hf h=>by
    unfold timerOp.named at h
    split at h
    · simp only [Except.ok.injEq] at h
      have:=congrArg (fun x=>x.2.world.drawn) h
      exact this.symm.trans (hf _ _)
    · cases h
  cases op with
  | new t =>
    simp only [timerOp] at h
    repeat' split at h
    all_goals first
      | (cases h; done)
      | (simp only [Except.ok.injEq,Prod.mk.injEq] at h; obtain ⟨_,rfl⟩:=h; rfl)
  | stop var=>exact hnm _ _ _ (fun k t=>hre _ _ _ _ _) h
  | reset var when_ period =>
    simp only [timerOp] at h
    split at h
    · rename_i m1 h1
      refine hnm _ _ _ (fun k t=>(hre _ _ _ _ _).trans ?_) h
      unfold timerOp.opened at h1
      split at h1
      · split at h1
        · simp only [Option.some.injEq] at h1; subst h1; rfl
        · cases h1
      · simp only [Option.some.injEq] at h1; subst h1; rfl
    · cases h
  | deadline ctx read write when_ =>
    simp only [timerOp,Except.ok.injEq,Prod.mk.injEq] at h
    obtain ⟨_,rfl⟩:=h
    rfl
theorem mup_runT (p:Program) (m:Machine) (i:Nat) (listen:Bool):MUp m.world.drawn (runT p m i listen).1:=by
  unfold runT
  simp only
  generalize hg:m.gs.swapAt! i { (default:Goroutine) with status:=.finished } = gg
  obtain ⟨g,gs⟩:=gg
  simp only
  have hs:=gup_stepG p (i == 0) g m.world listen
  generalize stepG p (i == 0) g m.world listen = s at hs ⊢
  cases s <;> simp only
  all_goals first
    | exact hs
    | trivial
    | exact (mup_communicate _ _ _ _ _ _ _ _ _).le hs
    | exact (mup_look _ _ _ _).le hs
    | exact MUp.ite (fun _=>trivial) (fun _=>hs)
    | skip
  · rename_i w1 _
    have hs':m.world.drawn ≤ w1.drawn:=hs
    split
    · rename_i h; exact Nat.le_trans hs' (Nat.le_of_eq (mup_timerOp _ _ _ _ h).symm)
    · simp only [endThrow,dieOf]; exact hs'
    · trivial
    · trivial
  · rename_i w1 _
    have hs':m.world.drawn ≤ w1.drawn:=hs
    split
    · exact hs'
    · simp only [endThrow,dieOf]; exact hs'
    · trivial
def VUp (d:Nat):Move → Prop
  | .goroutine m _=>d ≤ m.world.drawn
  | .machine s _=>MUp d s
theorem VUp.le {d d':Nat} {s:Move} (h:VUp d' s) (hd:d ≤ d'):VUp d s:=by
  cases s with
  | goroutine m i=>exact Nat.le_trans hd h
  | machine s o=>exact MUp.le h hd
theorem mup_serve (p:Program) (m:Machine) (k:Nat):MUp m.world.drawn (serve p m k):=by
  unfold serve
  split
  · trivial
  · exact Nat.le_refl _
  · simp only
    split
    · trivial
    · exact Nat.le_refl _
theorem vup_askOn (p:Program) (m:Machine):VUp m.world.drawn (askOn p m):=by
  have pick : ∀ m1 : Machine, m.world.drawn ≤ m1.world.drawn → VUp m.world.drawn (match (choose (.sched (runnable m.gs m.world.os.mono).length)).run p m1.world with
      | .halt _ w => Move.machine (.ended (.stuck "sched" "") w) #[]
      | .ok k world =>
        if (runnable m.gs m.world.os.mono).length ≤ 1 then .goroutine { m1 with world } ((runnable m.gs m.world.os.mono).getD k 0) else
        match (choose (.extern "sched.slice" 65536)).run p world with
        | .halt _ w => .machine (.ended (.stuck "sched.slice" "") w) #[]
        | .ok n world=>.goroutine { m1 with world,rest:={ m1.rest with slice:=if n = 0 then none else some ((runnable m.gs m.world.os.mono).getD k 0,n) } } ((runnable m.gs m.world.os.mono).getD k 0)):=fun m1 h1=>by
    split
    · trivial
    · have h2:=Zat ‹Sem.run p _ m1.world = Result.ok _ _›
      split
      · exact Nat.le_trans h1 h2
      · split
        · trivial
        · have h3 := Zat ‹Sem.run p (choose (.extern "sched.slice" 65536)) _ = Result.ok _ _›
          exact Nat.le_trans h1 (Nat.le_trans h2 h3)
  unfold askOn
  simp only
  split
  · trivial
  · have h0:=Zat ‹Sem.run p _ m.world = Result.ok _ _›
    split
    · exact (mup_serve _ _ _).le h0
    · split
      · split
        · exact h0
        · split
          · exact h0
          · split <;> trivial
      · split
        · exact pick { m with world:=_ } h0
        · split
          · trivial
          · have h1 := Zat ‹Sem.run p (choose (.extern "clock.wait" _)) _ = Result.ok _ _›
            exact pick { m with world:=_ } (Nat.le_trans h0 h1)
          · have h1 := Zat ‹Sem.run p (choose (.extern "clock.wait" _)) _ = Result.ok _ _›
            exact Nat.le_trans h0 h1
          · have h1 := Zat ‹Sem.run p (choose (.extern "clock.wait" _)) _ = Result.ok _ _›
            exact pick (Machine.advanceTo { m with world:=_ } _) (Nat.le_trans h0 h1)
theorem vup_ask (p:Program) (m:Machine):VUp m.world.drawn (ask p m):=by
  unfold ask
  split
  · split
    · trivial
    · have h0 := Zat ‹Sem.run p (choose (.extern "collector.look" 2)) m.world = Result.ok _ _›
      have h1:=(mup_look p m.gs m.rest _).le h0
      split
      · rename_i h2; rw [h2] at h1; exact (vup_askOn _ _).le h1
      · exact h1
    · have h0 := Zat ‹Sem.run p (choose (.extern "collector.look" 2)) m.world = Result.ok _ _›
      exact (vup_askOn _ _).le h0
  · exact vup_askOn _ _
theorem vup_move (p:Program) (m:Machine):VUp m.world.drawn (move p m):=by
  unfold move
  split
  · split
    · exact Nat.le_refl _
    · trivial
  · split
    · split
      · exact Nat.le_refl _
      · exact vup_ask _ _
    · exact vup_ask _ _
theorem mup_step (p:Program) (m:Machine):MUp m.world.drawn (step p m):=by
  unfold step stepT
  have h:=vup_move p m
  split
  · rename_i h1; rw [h1] at h; exact (mup_runT _ _ _ _).le h
  · rename_i h1; rw [h1] at h; exact h
theorem runN_drawn {p:Program}:∀ (n:Nat) (m m':Machine),runN p n m = .next m' → m.world.drawn ≤ m'.world.drawn
  | 0,m,m',h=>by simp only [runN,Stepped.next.injEq] at h; rw [h]; exact Nat.le_refl _
  | n + 1,m,m',h=>by
    have h1:=mup_step p m
    simp only [runN] at h
    split at h
    · rename_i m1 h2; rw [h2] at h1; exact Nat.le_trans h1 (runN_drawn n m1 m' h)
    · rename_i h2; rw [h] at h1; exact h1
theorem calls_drawn {P:Program} {f:FuncId} {args:Array Value} {w:World} {R:Ending → World → Prop} (h:Calls P f args w R):Calls P f args w fun e w'=>R e w' ∧ (e = .outgrown ∨ w.drawn ≤ w'.drawn):=by
  intro cs
  obtain ⟨e,w',fr,h1,h2,h3,h4⟩:=h cs
  refine ⟨e,w',fr,⟨h1,?_⟩,h2,h3,h4⟩
  cases e with
  | outgrown=>exact .inl rfl
  | returned v=>obtain ⟨n,hn⟩:=h2; exact .inr (runN_drawn n _ _ hn)
  | panicked c=>obtain ⟨n,hn⟩:=h2; exact .inr (runN_drawn n _ _ hn)
end Go.VM
namespace Go.VM
open Go
def PCallS (P:Program) (f:FuncId) (args:List PV) (S:PV → Prop):Prop :=
  fnOk P f = true ∧ Zax args ∧ ∀ g w (vals:Array Value),Rel g w Heap.nil → Args g vals args →
    Calls P f vals w fun x w'=>∃ v p m',x = .returned v ∧ S p ∧ Rep ⟨m',fun _=>none⟩ v p ∧ MemExt g w m' w' ∧ RowKit.Below w.heap.size w w'
theorem PCallS.mono {P:Program} {f:FuncId} {args:List PV} {S S':PV → Prop} (H:PCallS P f args S) (hs:∀ p,S p → S' p):PCallS P f args S' :=
  ⟨H.1,H.2.1,fun g w vals r ha=>(H.2.2 g w vals r ha).mono fun x w' ⟨v,p,m',h1,h2,h3⟩=>⟨v,p,m',h1,hs p h2,h3⟩⟩
end Go.VM
namespace Go.VM
open Go Go.Sort
structure Plain (α : Type) (k : Nat) (enc : α → List Value) (encP : α → List PV) : Prop where
  len : ∀ x, (enc x).length = k
  lenP : ∀ x, (encP x).length = k
  one : ∀ x, ∀ v ∈ enc x, v.oneCell' = true
  rep : ∀ g x j, j < k → Rep g ((enc x).getD j Go.undef) (PV.nth (encP x) j)
  inv : ∀ g v x j, j < k → Rep g v (PV.nth (encP x) j) → v = (enc x).getD j Go.undef
section
variable {α : Type} [Inhabited α] {k : Nat} {enc : α → List Value} {encP : α → List PV} {g : Gh} {w : World} {h : Heap}
end
end Go.VM
namespace Go.VM
open Go Go.Sort Go.RowKit
theorem below_grow {w w':World} (h:Below w.heap.size w w') (hd:w.drawn ≤ w'.drawn):∃ q os,w' = grow (w.drewN q) os:=by
  refine ⟨w'.drawn - w.drawn,w'.heap.extract w.heap.size w'.heap.size,?_⟩
  obtain ⟨hp,tape,drawn,os,output⟩:=w
  obtain ⟨hp',tape',drawn',os',output'⟩:=w'
  obtain ⟨h1,h2,h3,h4,h5⟩:=h
  simp only at h1 h2 h3 h4 h5 hd
  subst h1; subst h2; subst h3
  unfold grow World.drewN
  simp only [World.mk.injEq,and_true,true_and]
  refine ⟨?_,by omega⟩
  apply Array.ext_getElem?
  intro i
  by_cases hi:i < hp.size
  · rw [Array.getElem?_append_left hi,h5 i hi]
  · rw [Array.getElem?_append_right (by omega)]
    by_cases hi2:i < hp'.size
    · rw [Array.getElem?_extract]
      simp only [Nat.min_self]
      rw [if_pos (by omega)]
      congr 1; omega
    · rw [Array.getElem?_eq_none (by omega),Array.getElem?_eq_none (by simp; omega)]
theorem pcall_grow {P : Program} {f : FuncId} {args : List PV} {p : PV} (A : Za8 P f args p) {g : Gh} {w : World} {vals : Array Value} (r : Rel g w Heap.nil) (ha : Args g vals args) :
    Calls P f vals w fun e w'=>∃ v m',e = .returned v ∧ Rep ⟨m',fun _=>none⟩ v p ∧ ∃ q os,w' = grow (w.drewN q) os:=by
  refine (calls_drawn (A.2.2 g w vals r ha)).mono ?_
  rintro e w' ⟨⟨v,m',rfl,h1,_,h3⟩,h4⟩
  rcases h4 with h4 | h4
  · cases h4
  · exact ⟨v,m',rfl,h1,below_grow h3 h4⟩
theorem rel_sortK {α : Type} [Inhabited α] {g : Gh} {w W : World} {h : Heap} (r : Rel g w h) (enc : α → List Value) (k blk off m : Nat) (dk : Array α) (os : Array Obj) (hW : ∀ b, b < w.heap.size → b ≠ blk → W.heap[b]? = w.heap[b]?) (hs : w.heap.size ≤ W.heap.size)
    (hf:w.heap.size ≤ blk ∨ g.free blk):Rel ⟨g.m,fun _=>none⟩ (Go.Proofs.sortWorldK enc k W blk off m dk os) Heap.nil:=by
  have hsame:∀ b,b < w.heap.size → b ≠ blk → (Go.Proofs.sortWorldK enc k W blk off m dk os).heap[b]? = w.heap[b]?:=fun b hb hne=>by
    show ((Sort.putRowK enc k (Sort.ahead W m) blk off dk).heap ++ os)[b]? = _
    have h1:(Sort.putRowK enc k (Sort.ahead W m) blk off dk).heap = W.heap.modify blk (onCells (putCells (fun v:Value=>v) off (Sort.flatK enc k dk))):=rfl
    rw [h1,Array.getElem?_append_left (by simp; omega),Array.getElem?_modify,if_neg (Ne.symm hne),hW b hb hne]
  refine ⟨fun b o v e=>?_,fun b e he=>?_,fun id _=>⟨rfl,rfl⟩,fun id ab e=>by simp [Heap.nil,Heap.get,HL.get] at e,fun id id' x x' ab ab' _ e=>by simp [Heap.nil,Heap.get,HL.get] at e⟩
  · obtain ⟨h1,h2⟩:=r.mem b o v e
    have hlt:b < w.heap.size:=by
      rcases Nat.lt_or_ge b w.heap.size with h | h
      · exact h
      · simp [World.cell?,Array.getElem?_eq_none h] at h1
    have hne:b ≠ blk:=by
      rintro rfl
      rcases hf with h | h
      · omega
      · rw [h.1] at e; cases e
    refine ⟨?_,h2⟩
    simp only [World.cell?] at h1 ⊢
    rw [hsame b hlt hne]; exact h1
  · have h1:=r.mmem b e he
    have hlt:b < w.heap.size:=h1.lt
    have hne:b ≠ blk:=by
      rintro rfl
      rcases hf with h | h
      · omega
      · rw [h.2] at he; cases he
    rw [hsame b hlt hne]; exact h1
theorem args_two_of {g:Gh} {u v:Value} {p q:PV} (h1:Rep g u p) (h2:Rep g v q):Args g #[u,v] [p,q]:=⟨rfl,fun j hj=>by
  match j,hj with
  | 0,_=>exact h1
  | 1,_=>exact h2⟩
theorem rep_agg {α:Type} {k:Nat} {enc:α → List Value} {encP:α → List PV} (hp:Plain α k enc encP) (g:Gh) (x:α):Rep g (.agg (enc x).toArray) (.agg (encP x)):=by
  refine .agg _ _ (by simp [hp.len,hp.lenP]) (fun j hj=>?_) (fun j hj=>?_)
  · rw [hp.lenP] at hj
    have hl:j < (enc x).length:=by rw [hp.len]; exact hj
    have:(enc x).toArray.getD j Go.undef = (enc x)[j]:=by simp [Array.getD_eq_getD_getElem?,hl]
    rw [this]
    exact hp.one x _ (List.getElem_mem hl)
  · rw [hp.lenP] at hj
    have:=hp.rep g x j hj
    have e:(enc x).toArray.getD j Go.undef = (enc x).getD j Go.undef:=by simp [Array.getD_eq_getD_getElem?,List.getD_eq_getElem?_getD]
    rw [e]; exact this
theorem cmpLays_of {α : Type} [Inhabited α] {P : Program} {f : FuncId} {k : Nat} {enc : α → List Value} {encP : α → List PV} (hp : Plain α k enc encP) {cf : α → α → Int} (A : ∀ x y, Za8 P f [.agg (encP x), .agg (encP y)] (.int .i64 (cf x y)))
    {g:Gh} {w W:World} {h:Heap} (r:Rel g w h) (blk off size:Nat) (hW:∀ b,b < w.heap.size → b ≠ blk → W.heap[b]? = w.heap[b]?) (hs:w.heap.size ≤ W.heap.size) (hf:w.heap.size ≤ blk ∨ g.free blk) :
    Go.Proofs.CmpLays P f #[] enc k cf blk off size W:=by
  intro m os dk _ x y
  have R:=rel_sortK r enc k blk off m dk os hW hs hf
  refine (pcall_grow (A x y) R (args_two_of (rep_agg hp _ x) (rep_agg hp _ y))).mono ?_
  rintro e w' ⟨v,m',rfl,h1,h2⟩
  cases h1
  exact ⟨rfl,h2⟩
theorem flatMap_get {α:Type} [Inhabited α] {k:Nat} {enc:α → List Value} (hk:∀ x,(enc x).length = k) (h0:0 < k):∀ (ss:List α) (t:Nat),t < ss.length * k → (ss.flatMap enc)[t]? = some ((enc (ss.getD (t / k) default)).getD (t % k) Go.undef)
  | [],t,h=>by simp at h
  | x :: r,t,h=>by
    rw [List.flatMap_cons]
    by_cases ht:t < k
    · rw [List.getElem?_append_left (by rw [hk]; exact ht),Nat.div_eq_of_lt ht,Nat.mod_eq_of_lt ht]
      have hl:t < (enc x).length:=by rw [hk]; exact ht
      simp [List.getD_eq_getElem?_getD,hl]
    · have hlen:(x :: r).length * k = r.length * k + k:=by rw [List.length_cons,Nat.add_mul,Nat.one_mul]
      rw [List.getElem?_append_right (by rw [hk]; omega),hk,flatMap_get hk h0 r (t - k) (by omega)]
      have e1:t / k = (t - k) / k + 1:=by
        rw [Nat.div_eq_sub_div h0 (by omega)]
      have e2:t % k = (t - k) % k:=Nat.mod_eq_sub_mod (by omega)
      rw [e1,e2,List.getD_cons_succ]
theorem rows_result {g : Gh} {w w' : World} {h : Heap} (r : Rel g w h) (hb : Below w.heap.size w w') {z : Nat} (es : List (List PV)) (vs : Nat → Value) (hz : ∀ i, i < es.length → (PV.row es i).length = z)
    (hr:∀ i j,i < es.length → j < z → ∀ g:Gh,Rep g (vs (i * z + j)) (PV.nth (PV.row es i) j)) (h1:∀ j,j < es.length * z → (vs j).oneCell' = true)
    {gb cap:Nat} {cur:Array Value} {t:TypeId} {fr:Nat × Nat} (hbase:w.heap.size ≤ gb) (hgb:w'.heap[gb]? = some (.cells cur t fr)) (hcap:es.length ≤ cap) (hcur:∀ j,j < es.length * z → cur[j]? = some (vs j)) :
    ∃ m':Mem,Rep ⟨m',fun _=>none⟩ (.slice (some ⟨gb,0,none⟩) es.length cap) (.sl z es) ∧ MemExt g w m' w':=by
  let m':Mem:=⟨fun bb oo=>if bb = gb then (if oo < es.length * z then some (vs oo) else none) else g.m bb oo,g.m.mm,fun bb l hp=>⟨(g.m.kn bb l hp).1,fun j hj=>by rw [if_neg (fun e=>by have:=(r.mmem _ _ (g.m.kn bb l hp).1).lt; omega)]; exact (g.m.kn bb l hp).2 j hj⟩⟩
  have hlg:∀ bb oo v,g.m bb oo = some v → bb ≠ gb:=by
    rintro bb oo v e rfl
    have:=(r.mem _ _ _ e).1
    rw [World.cell?,Array.getElem?_eq_none (by omega)] at this
    cases this
  have base:=memExt_below r hb
  have hin:∀ i j,i < es.length → j < z → i * z + j < es.length * z:=fun i j hi hj=>Za4 hi hj
  refine ⟨m',?_,?_⟩
  · refine .sl gb 0 es.length cap z _ _ (fun i j=>vs (i * z + j)) rfl rfl hcap hz (fun i j hi hj=>?_) (fun i j hi hj=>hr i j hi hj _)
    show (if gb = gb then (if 0 + i * z + j < es.length * z then some (vs (0 + i * z + j)) else none) else _) = _
    have:=hin i j hi hj
    rw [if_pos rfl,if_pos (by omega)]
    simp
  · refine ⟨fun bb oo v e=>?_,fun bb oo v e=>?_,fun bb oo v e=>?_,base.oldM,base.okM,base.newM⟩
    · show (if bb = gb then _ else _) = _
      rw [if_neg (hlg bb oo v e)]; exact e
    · have e':(if bb = gb then (if oo < es.length * z then some (vs oo) else none) else g.m bb oo) = some v:=e
      by_cases h2:bb = gb
      · subst h2
        rw [if_pos rfl] at e'
        by_cases h3:oo < es.length * z
        · rw [if_pos h3] at e'
          simp only [Option.some.injEq] at e'
          subst e'
          refine ⟨?_,h1 oo h3⟩
          have:=hcur oo h3
          simp [World.cell?,hgb,this]
        · rw [if_neg h3] at e'; cases e'
      · rw [if_neg h2] at e'; exact base.ok bb oo v e'
    · have e':(if bb = gb then (if oo < es.length * z then some (vs oo) else none) else g.m bb oo) = some v:=e
      by_cases h2:bb = gb
      · subst h2; exact .inr hbase
      · rw [if_neg h2] at e'; exact .inl e'
section
variable {α : Type} [Inhabited α] {k : Nat} {enc : α → List Value} {encP : α → List PV}
theorem flatK_get (hp:Plain α k enc encP) (h0:0 < k) (d:List α) (t:Nat) (ht:t < d.length * k):(Sort.flatK enc k d.toArray)[t]! = (enc (d.getD (t / k) default)).getD (t % k) Go.undef:=by
  have e1:=Sort.get_flatK enc k d.toArray t (by simpa using ht)
  have h1:t / k < d.length:=Nat.div_lt_of_lt_mul (by rw [Nat.mul_comm]; exact ht)
  have h2:t % k < k:=Nat.mod_lt _ h0
  rw [e1]
  have e2:d.toArray[t / k]! = d.getD (t / k) default:=by simp [List.getD_eq_getElem?_getD,h1]
  rw [e2]
  have hl:t % k < (enc (d.getD (t / k) default)).length:=by rw [hp.len]; exact h2
  generalize enc (d.getD (t / k) default) = L at hl ⊢
  rw [getElem!_pos L (t % k) hl,List.getD_eq_getElem?_getD,List.getElem?_eq_getElem hl,Option.getD_some]
theorem holdsK_of_block (hp:Plain α k enc encP) (h0:0 < k) {w:World} {g:Nat} {cur:Array Value} {e:TypeId} {ss:List α} (hb:w.heap[g]? = some (.cells cur e (0,0))) (ht:cur.toList.take (ss.length * k) = ss.flatMap enc):Go.Sort.HoldsK enc k w g 0 ss.toArray:=by
  intro j hj
  have hj':j < ss.length * k:=by simpa using hj
  refine ⟨?_,by simp [World.frozen?,hb]⟩
  have h1:(cur.toList.take (ss.length * k))[j]? = (ss.flatMap enc)[j]?:=by rw [ht]
  rw [List.getElem?_take_of_lt hj',flatMap_get hp.len h0 ss j hj'] at h1
  rw [flatK_get hp h0 ss j hj']
  simp only [World.cell?,hb,Nat.zero_add]
  simp only [Option.isSome_none,Bool.false_eq_true,if_false]
  rw [← Array.getElem?_toList,h1]
  rfl
theorem sortedRow_result (hp : Plain α k enc encP) (h0 : 0 < k) {g : Gh} {w W : World} {h : Heap} (r : Rel g w h) (hb : Below w.heap.size w W) {gb cap : Nat} {cur : Array Value} {t : TypeId} (hbase : w.heap.size ≤ gb) (hgb : W.heap[gb]? = some (.cells cur t (0, 0))) (d : List α) (hcap : d.length ≤ cap) (hcs : d.length * k ≤ cur.size) (n : Nat) (os : Array Obj) :
    ∃ m':Mem,Rep ⟨m',fun _=>none⟩ (.slice (some ⟨gb,0,none⟩) d.length cap) (.sl k (d.map encP)) ∧ MemExt g w m' (Go.Proofs.sortWorldK enc k W gb 0 n d.toArray os) ∧ Below w.heap.size w (Go.Proofs.sortWorldK enc k W gb 0 n d.toArray os):=by
  have hgl:gb < W.heap.size:=(Array.getElem?_eq_some_iff.1 hgb).1
  have h1:(Sort.putRowK enc k (Sort.ahead W n) gb 0 d.toArray).heap = W.heap.modify gb (onCells (putCells (fun v:Value=>v) 0 (Sort.flatK enc k d.toArray))):=rfl
  have hheap:(Go.Proofs.sortWorldK enc k W gb 0 n d.toArray os).heap[gb]? = some (.cells (putCells (fun v:Value=>v) 0 (Sort.flatK enc k d.toArray) cur) t (0,0)):=by
    show ((Sort.putRowK enc k (Sort.ahead W n) gb 0 d.toArray).heap ++ os)[gb]? = _
    rw [h1,Array.getElem?_append_left (by simpa using hgl),Array.getElem?_modify,if_pos rfl,hgb]
    rfl
  have hbl:Below w.heap.size w (Go.Proofs.sortWorldK enc k W gb 0 n d.toArray os):=by
    refine ⟨hb.os,hb.tape,hb.output,?_,fun j hj=>?_⟩
    · show _ ≤ ((Sort.putRowK enc k (Sort.ahead W n) gb 0 d.toArray).heap ++ os).size
      rw [h1]; have:=hb.size; simp; omega
    · show ((Sort.putRowK enc k (Sort.ahead W n) gb 0 d.toArray).heap ++ os)[j]? = _
      rw [h1,Array.getElem?_append_left (by simp; omega),Array.getElem?_modify,if_neg (by omega)]
      exact hb.block j hj
  obtain ⟨m', k1, k2⟩ := rows_result r hbl (z := k) (d.map encP) (fun t => (enc (d.getD (t / k) default)).getD (t % k) Go.undef) (fun i hi => by
      simp at hi
      simp [PV.row,List.getD_eq_getElem?_getD,hi,hp.lenP]) (fun i j hi hj g'=>by
      simp at hi
      have e1:(i * k + j) / k = i:=by rw [Nat.mul_comm,Nat.mul_add_div (by omega),Nat.div_eq_of_lt hj,Nat.add_zero]
      have e2:(i * k + j) % k = j:=by rw [Nat.add_comm,Nat.add_mul_mod_self_right,Nat.mod_eq_of_lt hj]
      simp only [e1,e2]
      have e3:PV.row (d.map encP) i = encP (d.getD i default):=by simp [PV.row,List.getD_eq_getElem?_getD,hi]
      rw [e3]
      exact hp.rep g' _ j hj) (fun j hj=>by
      refine hp.one (d.getD (j / k) default) _ ?_
      have hl:j % k < (enc (d.getD (j / k) default)).length:=by rw [hp.len]; exact Nat.mod_lt _ h0
      generalize enc (d.getD (j / k) default) = L at hl ⊢
      rw [List.getD_eq_getElem?_getD,List.getElem?_eq_getElem hl,Option.getD_some]
      exact List.getElem_mem hl) (gb:=gb) (cap:=cap) hbase hheap (by simpa using hcap) (fun j hj=>by
      simp only [List.length_map] at hj
      have hlt:j < cur.size:=by omega
      have hcond:0 ≤ j ∧ j < 0 + (Sort.flatK enc k d.toArray).size:=⟨Nat.zero_le _,by simpa using hj⟩
      simp only [putCells,Array.getElem?_mapIdx,Array.getElem?_eq_getElem hlt,Option.map_some,if_pos hcond,Nat.sub_zero]
      rw [flatK_get hp h0 d j hj])
  rw [List.length_map] at k1
  exact ⟨m',k1,k2,hbl⟩
end
end Go.VM
