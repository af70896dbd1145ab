/- For every list of needs WhyDepths returns true, as the card says: how far a node is away is how long its chain is; what the root needs is 1 away; no need leads more than one further. Condition: when the call begins, utf8.acceptRanges and utf8.first hold what Go's own text lays. (part 6 of its proof) -/
import Derived.Calls
import Derived.RunT
set_option linter.unusedVariables false
set_option linter.unusedSimpArgs false
namespace Go.Drawn
open Go
def resW {α : Type} : Result α → World
  | .ok _ w => w
  | .halt _ w => w
theorem viewStore_drawn {P : Program} {w w' : World} {at_ : Addr} {u : TypeId} {k : Addr} {v : Value} {b : Bool} {l : List Addr} (h : w.viewStore P at_ u k v b = .ok (w', l)) : w'.drawn = w.drawn := by
  unfold World.viewStore at h
  simp only [bind, Except.bind, pure, Except.pure, throw, throwThe, MonadExceptOf.throw] at h
  repeat' (split at h <;> try (cases h; done))
  all_goals (injection h with h; injection h with h1 h2; rw [← h1])
theorem farStore_drawn {P : Program} {w w' : World} {a : Addr} {v : Value} {b : Bool} {l : List Addr} (h : w.farStore P a v b = .ok (w', l)) : w'.drawn = w.drawn := by
  unfold World.farStore at h
  split at h
  · split at h
    · rename_i r hr
      injection h with h
      subst h
      exact viewStore_drawn hr
    · cases h
  · cases h
theorem ask_drawn {α : Type} (a : Ask α) : ∀ w : World, w.drawn ≤ (w.ask a).2.drawn := by
  induction a with
  | done a => intro w; simp [World.ask]
  | ask what range k ih =>
    intro w
    unfold World.ask
    simp only
    split
    · exact ih _ _
    · refine Nat.le_trans ?_ (ih _ _); exact Nat.le_succ _
theorem sys_drawn (w : World) (c : Sys) : w.drawn ≤ (w.sys c).2.drawn := by
  have h := ask_drawn (Kernel.perform c w.os) w
  unfold World.sys
  split
  · exact Nat.le_refl _
  · rename_i e
    rw [e] at h
    exact h
theorem run_drawn {α : Type} (P : Program) (s : Sem α) : ∀ w : World, w.drawn ≤ (resW (s.run P w)).drawn := by
  induction s with
  | pure a => intro w; exact Nat.le_refl _
  | load m a k ih =>
    intro w
    simp only [Sem.run]
    repeat' split
    all_goals first | exact ih _ _ | exact Nat.le_refl _
  | store m a v k ih =>
    intro w
    cases v <;> simp only [Sem.run] <;> (repeat' split) <;> first | exact Nat.le_refl _ | (refine Nat.le_trans ?_ (ih _); first | exact Nat.le_refl _ | (rename_i h; exact Nat.le_of_eq (farStore_drawn h).symm))
  | new o k ih => intro w; simp only [Sem.run]; refine Nat.le_trans ?_ (ih _ _); exact Nat.le_refl _
  | shape r k ih => intro w; simp only [Sem.run]; exact ih _ _
  | freeze a n k ih =>
    intro w; simp only [Sem.run]
    have h : (w.freeze a n).drawn = w.drawn := by unfold World.freeze; split <;> rfl
    rw [← h]; exact ih _
  | frozen a k ih => intro w; simp only [Sem.run]; exact ih _ _
  | getObj r k ih => intro w; simp only [Sem.run]; repeat' split
                     all_goals first | exact ih _ _ | exact Nat.le_refl _
  | setObj r o k ih => intro w; simp only [Sem.run]; repeat' split
                       all_goals first | exact Nat.le_refl _ | (refine Nat.le_trans ?_ (ih _); exact Nat.le_refl _)
  | choose q k ih =>
    intro w; simp only [Sem.run]; split
    · exact ih _ _
    · refine Nat.le_trans ?_ (ih _ _); exact Nat.le_succ _
  | sys c k ih => intro w; simp only [Sem.run]; exact Nat.le_trans (sys_drawn w c) (ih _ _)
  | program k ih => intro w; simp only [Sem.run]; exact ih _ _
  | mark m k ih => intro w; simp only [Sem.run]; exact ih _
  | halt h => intro w; exact Nat.le_refl _
theorem runT_drawn {α : Type} (P : Program) (s : Sem α) (w : World) (es : Array Event) : w.drawn ≤ (resW (s.runT P w es).1).drawn := by
  rw [Sem.runT_fst]; exact run_drawn P s w
theorem run_ok {α : Type} {P : Program} {s : Sem α} {w w' : World} {a : α} (h : s.run P w = .ok a w') : w.drawn ≤ w'.drawn := by
  have := run_drawn P s w; rw [h] at this; exact this
theorem run_halt {α : Type} {P : Program} {s : Sem α} {w w' : World} {a : Halt} (h : s.run P w = .halt a w') : w.drawn ≤ w'.drawn := by
  have := run_drawn P s w; rw [h] at this; exact this
theorem runT_ok {α : Type} {P : Program} {s : Sem α} {w w' : World} {es es' : Array Event} {a : α} (h : s.runT P w es = (.ok a w', es')) : w.drawn ≤ w'.drawn := by
  have := runT_drawn P s w es; rw [h] at this; exact this
theorem runT_halt {α : Type} {P : Program} {s : Sem α} {w w' : World} {es es' : Array Event} {a : Halt} (h : s.runT P w es = (.halt a w', es')) : w.drawn ≤ w'.drawn := by
  have := runT_drawn P s w es; rw [h] at this; exact this
def gW : GStep → World
  | .go _ w _ => w
  | .comm _ _ _ _ w _ => w
  | .spawn _ _ w _ => w
  | .count _ w _ => w
  | .timer _ _ w _ => w
  | .alone _ _ w _ => w
  | .newcoro _ _ _ w _ => w
  | .coroswitch _ _ _ w _ => w
  | .collect _ w _ => w
  | .watch _ w _ => w
  | .ended _ w _ => w
theorem gW_after (es : Array Event) (s : GStep) : gW (s.after es) = gW s := by cases s <;> rfl
theorem gW_ite {c : Prop} [Decidable c] {a b : GStep} {n : Nat} (h1 : n ≤ (gW a).drawn) (h2 : n ≤ (gW b).drawn) : n ≤ (gW (if c then a else b)).drawn := by split <;> assumption
theorem doReturn_drawn (P : Program) (main : Bool) (fr : Frame) (cs : List Frame) (d : Option Dying) (v : Value) (w : World) : w.drawn ≤ (gW (doReturn P main fr cs d v w)).drawn := by
  unfold doReturn
  repeat' split
  all_goals exact Nat.le_refl _
theorem endWith_drawn (w : World) (fd : Nat) (text : ByteArray) (o : Outcome) : w.drawn ≤ (gW (endWith w fd text o)).drawn := by
  have h := sys_drawn w (.write fd text)
  unfold endWith
  dsimp only
  split <;> rename_i e <;> rw [e] at h <;> (repeat' split) <;> exact h
theorem endWith_is (w : World) (fd : Nat) (text : ByteArray) (o : Outcome) : ∃ o' w', endWith w fd text o = .ended o' w' := by
  unfold endWith
  dsimp only
  split <;> (repeat' split) <;> exact ⟨_, _, rfl⟩
theorem endPrinting_drawn (P : Program) (fr : Frame) (v : Value) (w : World) : w.drawn ≤ (gW (endPrinting P fr v w)).drawn := by
  unfold endPrinting
  dsimp only
  repeat' split
  all_goals exact Nat.le_refl _
theorem endFatal_drawn (P : Program) (fr : Frame) (cs : List Frame) (d : Option Dying) (m : String) (w : World) : w.drawn ≤ (gW (endFatal P fr cs d m w)).drawn := by
  unfold endFatal
  extract_lets chain raw shown
  split <;> rename_i e <;> first | exact run_ok e | exact run_halt e
theorem writeOn_drawn (P : Program) (fr : Frame) (d : Dying) (f : Fatal) (w : World) : w.drawn ≤ (gW (writeOn P fr d f w)).drawn := by
  unfold writeOn
  extract_lets on_
  split
  · exact Nat.le_refl _
  · extract_lets write
    split <;> rename_i e <;> first | exact runT_ok e | exact runT_halt e
theorem die_drawn (P : Program) (fr : Frame) (d : Dying) (w : World) : w.drawn ≤ (gW (die P fr d w)).drawn := by
  unfold die
  split
  · exact writeOn_drawn _ _ _ _ _
  · split
    · split
      · exact Nat.le_refl _
      · exact endWith_drawn _ _ _ _
    · extract_lets d'
      split
      · exact Nat.le_refl _
      · split <;> rename_i e <;> first | exact run_ok e | exact run_halt e
      · rename_i t recv name _
        have h := runT_drawn P (invoke (.fn (.method name) #[]) #[.iface t recv]) w #[]
        dsimp only
        rw [gW_after]
        split <;> first | exact Nat.le_refl _ | (rename_i e; rw [e] at h; first | exact h | exact Nat.le_trans h (endPrinting_drawn _ _ _ _))
      · exact Nat.le_refl _
theorem callDeferred_drawn (P : Program) (fr : Frame) (cs : List Frame) (dy : Option Dying) (d : Deferred) (w : World) : w.drawn ≤ (gW (callDeferred P fr cs dy d w)).drawn := by
  unfold callDeferred
  have h := runT_drawn P (invoke d.target d.args) w #[]
  refine gW_ite (Nat.le_refl _) ?_
  dsimp only
  rw [gW_after]
  generalize ((invoke d.target d.args).runT P w #[]).1 = r at h
  cases r with
  | ok n w' =>
    cases n with
    | alone b v => cases b <;> exact h
    | coroswitch c b => cases b <;> exact h
    | recover => dsimp only; split <;> exact h
    | _ => exact h
  | halt n w' => cases n <;> first | exact h | exact Nat.le_trans h (endFatal_drawn _ _ _ _ _ _)
theorem unwind_drawn (P : Program) (main : Bool) (fr : Frame) (cs : List Frame) (dy : Option Dying) (w : World) : w.drawn ≤ (gW (unwind P main fr cs dy w)).drawn := by
  unfold unwind
  split
  · rename_i block _ _ _
    have h := runT_drawn P (Instr.takeDeferred block) w #[]
    dsimp only
    rw [gW_after]
    generalize ((Instr.takeDeferred block).runT P w #[]).1 = r at h
    cases r <;> exact h
  · exact callDeferred_drawn _ _ _ _ _ _
  · split
    · exact Nat.le_refl _
    · split
      · exact Nat.le_refl _
      · split
        · exact Nat.le_refl _
        · split
          · split
            · exact Nat.le_refl _
            · split <;> rename_i e <;> first | exact run_ok e | exact run_halt e
          · split
            · exact endPrinting_drawn _ _ _ _
            · exact Nat.le_refl _
    · split
      · exact doReturn_drawn _ _ _ _ _ _ _
      · rename_i fn _
        have h := runT_drawn P (results fn fr.tmps) w #[]
        dsimp only
        rw [gW_after]
        generalize ((results fn fr.tmps).runT P w #[]).1 = r at h
        cases r with
        | ok n w' => exact Nat.le_trans h (doReturn_drawn _ _ _ _ _ _ _)
        | halt n w' => cases n <;> exact h
theorem early_drawn (P : Program) (fr : Frame) (cs : List Frame) (dy : Option Dying) (g : Nat) (w : World) : w.drawn ≤ (gW (early P fr cs dy g w)).drawn := by
  unfold early
  extract_lets refuse_ notYet
  have hn : ∀ w : World, w.drawn ≤ (gW (notYet w)).drawn := fun w => by
    dsimp only [notYet]
    split <;> exact Nat.le_refl _
  split
  · exact hn _
  · split
    · exact Nat.le_refl _
    · extract_lets there
      have ht : ∀ w : World, w.drawn ≤ (gW (there w)).drawn := fun w => Nat.le_refl _
      repeat' split
      all_goals first
        | exact Nat.le_refl _
        | exact hn _
        | exact ht _
        | (rename_i e; first | exact Nat.le_trans (run_ok e) (hn _) | exact Nat.le_trans (run_ok e) (ht _) | exact run_halt e)
theorem apply_drawn (P : Program) (listen : Bool) (fr : Frame) (cs : List Frame) (dy : Option Dying) (s : Sem Next) (w : World) : w.drawn ≤ (gW (stepG.apply P listen fr cs dy s w)).drawn := by
  unfold stepG.apply
  have h : w.drawn ≤ (resW (if listen then s.runT P w #[] else (s.run P w, #[])).1).drawn := by
    split
    · exact runT_drawn _ _ _ _
    · exact run_drawn _ _ _
  dsimp only
  rw [gW_after]
  generalize (if listen then s.runT P w #[] else (s.run P w, #[])).1 = r at h
  cases r with
  | ok n w' => cases n <;> dsimp only <;> (repeat' split) <;> exact h
  | halt n w' =>
    cases n with
    | unsupported u => cases u <;> dsimp only <;> first | exact h | exact Nat.le_trans h (early_drawn _ _ _ _ _ _)
    | _ => dsimp only <;> first | exact h | exact Nat.le_trans h (endFatal_drawn _ _ _ _ _ _)
theorem oper_drawn (P : Program) (listen : Bool) (fr : Frame) (cs : List Frame) (dy : Option Dying) (w : World) : w.drawn ≤ (gW (stepG.oper P listen fr cs dy w)).drawn := by
  unfold stepG.oper
  split
  · exact Nat.le_refl _
  · split <;> exact apply_drawn _ _ _ _ _ _ _
theorem exec_drawn (P : Program) (main listen : Bool) (fr : Frame) (cs : List Frame) (dy : Option Dying) (w : World) : w.drawn ≤ (gW (stepG.exec P main listen fr cs dy w)).drawn := by
  unfold stepG.exec
  extract_lets go to lost leave
  have hl : ∀ j, w.drawn ≤ (gW (leave j)).drawn := fun j => by
    dsimp only [leave]
    split
    · split <;> exact Nat.le_refl _
    · rename_i l _
      have h := runT_drawn P (Instr.endRound l j) w #[]
      rw [gW_after]
      generalize ((Instr.endRound l j).runT P w #[]).1 = r at h
      cases r with
      | ok v w' => exact Nat.le_trans h (doReturn_drawn _ _ _ _ _ _ _)
      | halt _ w' => exact h
  have el : ∀ (o : Option (List Item)) (j : Option Code), w.drawn ≤ (gW (o.elim (leave j) to)).drawn := fun o j => by
    cases o with
    | none => exact hl j
    | some k => exact Nat.le_refl w.drawn
  have ht : ∀ k, w.drawn ≤ (gW (to k)).drawn := fun k => Nat.le_refl w.drawn
  have hls : ∀ k, w.drawn ≤ (gW (lost k)).drawn := fun k => Nat.le_refl w.drawn
  have hg : ∀ f w', w.drawn ≤ w'.drawn → w.drawn ≤ (gW (go f w')).drawn := fun _ _ h => h
  clear_value leave to lost go
  split
  case h_1 => exact hl none
  case h_2 => exact hl (some .ret)
  case h_8 => split <;> first | exact ht _ | exact hls _
  case h_13 => exact el _ _
  case h_14 => exact el _ _
  case h_15 f params assign body k _ =>
    have h := runT_drawn P (Instr.enterLoop fr.fn fr.tmps params assign body fr.roundOf) w #[]
    dsimp only
    rw [gW_after]
    generalize ((Instr.enterLoop fr.fn fr.tmps params assign body fr.roundOf).runT P w #[]).1 = r at h
    cases r with
    | ok v w' => exact Nat.le_trans h (apply_drawn _ _ _ _ _ _ _)
    | halt _ w' => exact h
  case h_18 l k _ =>
    have h := runT_drawn P (Instr.endLoop l) w #[]
    dsimp only
    rw [gW_after]
    generalize ((Instr.endLoop l).runT P w #[]).1 = r at h
    cases r with
    | ok v w' => exact hg _ _ h
    | halt n w' => cases n <;> first | exact h | exact hg _ _ h
  case h_21 =>
    cases Extern.next _ with
    | none => exact hls _
    | some e => exact apply_drawn _ _ _ _ _ _ _
  case h_22 =>
    refine gW_ite (ht _) ?_
    split <;> rename_i e
    · exact hg _ _ (run_ok e)
    · exact run_halt e
  case h_24 => exact gW_ite (oper_drawn _ _ _ _ _ _) (hg _ _ (Nat.le_refl _))
  all_goals first
    | exact ht _
    | exact hls _
    | exact apply_drawn _ _ _ _ _ _ _
    | exact Nat.le_refl w.drawn
theorem stepG_drawn (P : Program) (main : Bool) (g : Goroutine) (w : World) (listen : Bool) : w.drawn ≤ (gW (stepG P main g w listen)).drawn := by
  unfold stepG
  dsimp only
  split
  · exact die_drawn _ _ _ _
  · exact exec_drawn _ _ _ _ _ _ _
  · exact unwind_drawn _ _ _ _ _ _
def sW : Stepped → World
  | .next m => m.world
  | .ended _ w => w
def LeS (w : World) (s : Stepped) : Prop := w.drawn ≤ (sW s).drawn
theorem LeS.ite {c : Prop} [Decidable c] {a b : Stepped} {w : World} (h1 : LeS w a) (h2 : LeS w b) : LeS w (if c then a else b) := by split <;> assumption
def LeP (w : World) (s : Stepped × Array MemOp) : Prop := w.drawn ≤ (sW s.1).drawn
theorem LeP.ite {c : Prop} [Decidable c] {a b : Stepped × Array MemOp} {w : World} (h1 : LeP w a) (h2 : LeP w b) : LeP w (if c then a else b) := by split <;> assumption
theorem LeP.mono {w w' : World} {s : Stepped × Array MemOp} (h : w.drawn ≤ w'.drawn) (h' : LeP w' s) : LeP w s := Nat.le_trans h h'
theorem communicate_drawn (P : Program) (rest : Rest) (gs : Array Goroutine) (i : Nat) (g : Goroutine) (cases : Array CommCase) (blocking : Bool) (shape : CommShape) (w : World) : LeP w (communicate P rest gs i g cases blocking shape w) := by
  unfold communicate
  extract_lets put illMade me other ready pick
  have hput : ∀ g gs w' ops, w.drawn ≤ w'.drawn → LeP w (put g gs w' ops) := fun _ _ _ _ h => h
  clear_value put
  refine LeP.ite (Nat.le_refl _) ?_
  refine LeP.ite ?_ ?_
  · refine LeP.ite ?_ (hput _ _ _ _ (Nat.le_refl _))
    split
    · rename_i w1 e
      unfold waitingAt at e
      split at e
      · split at e
        · injection e with e; subst e; exact Nat.le_refl w.drawn
        · cases e
      · injection e with e; subst e; exact Nat.le_refl w.drawn
    · exact Nat.le_refl _
  · split
    · rename_i e; exact run_halt e
    · rename_i k c way w1 e
      have h1 := run_ok e
      clear e
      dsimp only
      split
      · split
        · rename_i e; exact hput _ _ _ _ (Nat.le_trans h1 (run_halt e))
        · exact h1
      · exact hput _ _ _ _ h1
      · exact hput _ _ _ _ h1
      · split
        · exact hput _ _ _ _ h1
        · split <;> rename_i e
          · refine hput _ _ _ _ (Nat.le_trans h1 ?_); have := run_ok e; exact this
          · exact Nat.le_trans h1 (run_halt e)
      · exact hput _ _ _ _ h1
      · exact hput _ _ _ _ h1
      · exact h1
theorem look_drawn (P : Program) (gs : Array Goroutine) (rest : Rest) (w : World) : LeS w (look P gs rest w) := by
  unfold look
  split
  · extract_lets
    refine LeS.ite (Nat.le_refl _) ?_
    split
    · exact Nat.le_refl _
    · extract_lets
      split <;> rename_i e
      · have h := run_ok e; exact h
      · exact run_halt e
      · exact run_halt e
  · exact Nat.le_refl _
theorem drain_drawn (w : World) (c : Nat) : (drain w c).2.drawn = w.drawn := by
  unfold drain
  split <;> rfl
theorem retime_drawn (m : Machine) (k : Nat) (t : Timer) (a b : Nat) : (retime m k t a b).2.world.drawn = m.world.drawn := by
  unfold retime
  cases t.chan with
  | none => rfl
  | some c => exact drain_drawn _ _
theorem named_drawn {m : Machine} {var : Addr} {f : Nat → Timer → Value × Machine} {n : Nat} (hf : ∀ k t, n ≤ (f k t).2.world.drawn) {v : Value} {m' : Machine} (h : timerOp.named m var f = .ok (v, m')) : n ≤ m'.world.drawn := by
  unfold timerOp.named at h
  split at h
  · injection h with h
    rename_i k _
    have hk := hf k (m.rest.timers.getD k default)
    rw [h] at hk
    exact hk
  · cases h
theorem timerOp_drawn {m m' : Machine} {op : TimerOp} {v : Value} (h : timerOp m op = .ok (v, m')) : m.world.drawn ≤ m'.world.drawn := by
  unfold timerOp at h
  split at h
  · split at h
    · injection h with h; injection h with _ h; subst h; exact Nat.le_refl _
    · split at h
      · split at h
        · cases h
        · injection h with h; injection h with _ h; subst h; exact Nat.le_refl m.world.drawn
      · cases h
  · exact named_drawn (fun k t => Nat.le_of_eq (retime_drawn _ _ _ _ _).symm) h
  · split at h
    · rename_i m1 e
      have h1 : m1.world.drawn = m.world.drawn := by
        unfold timerOp.opened at e
        split at e
        · split at e
          · injection e with e; subst e; rfl
          · cases e
        · injection e with e; subst e; rfl
      exact named_drawn (fun k t => by rw [retime_drawn, h1]; exact Nat.le_refl _) h
    · cases h
  · injection h with h; injection h with _ h; subst h; exact Nat.le_refl _
theorem serve_drawn (P : Program) (m : Machine) (k : Nat) : LeS m.world (serve P m k) := by
  unfold serve
  split
  · exact Nat.le_refl _
  · exact Nat.le_refl m.world.drawn
  · extract_lets
    split <;> exact Nat.le_refl m.world.drawn
theorem endThrow_go {fr : Frame} {m : String} {w w' : World} {g : Goroutine} {es : Array Event} (h : endThrow fr m w = .go g w' es) : w' = w := by
  unfold endThrow dieOf at h
  injection h with _ h
  exact h.symm
theorem runT_machine_drawn (P : Program) (m : Machine) (i : Nat) (listen : Bool) : LeP m.world (Go.runT P m i listen) := by
  unfold Go.runT
  extract_lets rest world
  split
  rename_i g gs _
  extract_lets wake fn pos s ops done
  have hs : m.world.drawn ≤ (gW s).drawn := stepG_drawn P (i == 0) g m.world listen
  have hd : ∀ r, LeS m.world r → LeP m.world (done r) := fun r h => h
  clear_value s done
  split
  · exact hd _ hs
  · rename_i g' cases_ blocking shape w _
    have h := LeP.mono hs (communicate_drawn P rest gs i g' cases_ blocking shape w)
    exact h
  · extract_lets
    exact hd _ hs
  · exact hs
  · refine hd _ ?_
    exact LeS.ite hs hs
  · exact hd _ hs
  · exact hd _ (Nat.le_trans hs (look_drawn _ _ _ _))
  · exact hd _ hs
  · exact hs
  · refine hd _ ?_
    split
    · exact hs
    · split
      · rename_i e; rw [endThrow_go e]; exact hs
      · exact hs
    · exact hs
  · refine hd _ ?_
    split
    · rename_i e; have h := timerOp_drawn e; exact Nat.le_trans hs h
    · split
      · rename_i e; rw [endThrow_go e]; exact hs
      · exact hs
    · exact hs
    · exact hs
theorem endWith_le {w w' : World} {fd : Nat} {t : ByteArray} {o o' : Outcome} {es : Array Event} (h : endWith w fd t o = .ended o' w' es) : w.drawn ≤ w'.drawn := by
  have := endWith_drawn w fd t o
  rw [h] at this
  exact this
theorem endWith_no {w : World} {fd : Nat} {t : ByteArray} {o : Outcome} (h : ∀ o' w' es, endWith w fd t o = .ended o' w' es → False) : False := by
  obtain ⟨o', w', e⟩ := endWith_is w fd t o
  exact h _ _ _ e
def mW : Move → World
  | .goroutine m _ => m.world
  | .machine s _ => sW s
theorem askOn_drawn (P : Program) (m : Machine) : m.world.drawn ≤ (mW (askOn P m)).drawn := by
  unfold askOn
  extract_lets mono rs ds pick
  have hp : ∀ m' : Machine, m.world.drawn ≤ m'.world.drawn → m.world.drawn ≤ (mW (pick m')).drawn := fun m' h => by
    dsimp only [pick]
    split <;> rename_i e
    · exact Nat.le_trans h (run_halt e)
    · have h1 := Nat.le_trans h (run_ok e)
      split
      · exact h1
      · split <;> rename_i e2
        · exact Nat.le_trans h1 (run_halt e2)
        · exact Nat.le_trans h1 (run_ok e2)
  clear_value pick
  split <;> rename_i e
  · exact run_halt e
  · have h1 := run_ok e
    clear e
    clear_value rs
    extract_lets m1
    have hm : m1.world.drawn = _ := rfl
    split
    · exact Nat.le_trans h1 (serve_drawn P m1 _)
    · cases rs with
      | nil =>
        dsimp only
        split
        · exact h1
        · split
          · exact h1
          · split <;> rename_i e2
            · exact Nat.le_trans h1 (endWith_le e2)
            · exact (endWith_no e2).elim
      | cons r rs =>
        dsimp only
        split
        · exact hp _ h1
        · split <;> rename_i e2
          · exact Nat.le_trans h1 (run_halt e2)
          · exact hp _ (Nat.le_trans h1 (run_ok e2))
          · have h2 := Nat.le_trans h1 (run_ok e2); exact h2
          · refine hp _ ?_
            have h2 := Nat.le_trans h1 (run_ok e2); exact h2
theorem ask_m_drawn (P : Program) (m : Machine) : m.world.drawn ≤ (mW (Go.ask P m)).drawn := by
  unfold Go.ask
  split
  · split <;> rename_i e
    · exact run_halt e
    · have h1 := run_ok e
      have h2 := look_drawn P m.gs m.rest ‹World›
      split
      · rename_i e2
        rw [e2] at h2
        exact Nat.le_trans (Nat.le_trans h1 h2) (askOn_drawn P _)
      · exact Nat.le_trans h1 h2
    · have h1 := run_ok e
      refine Nat.le_trans h1 ?_
      have h2 := askOn_drawn P { m with world := ‹World› }
      exact h2
  · exact askOn_drawn P m
theorem move_drawn (P : Program) (m : Machine) : m.world.drawn ≤ (mW (move P m)).drawn := by
  unfold move
  split
  · split <;> exact Nat.le_refl _
  · split
    · split
      · exact Nat.le_refl m.world.drawn
      · exact ask_m_drawn P { m with rest := { m.rest with slice := none } }
    · exact ask_m_drawn P m
theorem step_drawn (P : Program) (m : Machine) : LeS m.world (step P m) := by
  unfold step stepT
  have h := move_drawn P m
  split <;> rename_i e <;> rw [e] at h
  · exact Nat.le_trans h (runT_machine_drawn P _ _ _)
  · exact h
theorem runN_drawn (P : Program) (n : Nat) : ∀ m : Machine, LeS m.world (runN P n m) := by
  induction n with
  | zero => intro m; exact Nat.le_refl _
  | succ n ih =>
    intro m
    have h := step_drawn P m
    unfold runN
    split
    · rename_i e
      rw [e] at h
      exact Nat.le_trans h (ih _)
    · exact h
theorem steps_drawn {P : Program} {m m' : Machine} (h : Steps P m m') : m.world.drawn ≤ m'.world.drawn := by
  obtain ⟨n, hn⟩ := h
  have := runN_drawn P n m
  rw [hn] at this
  exact this
theorem _root_.Go.Calls.and_drawn {P : Program} {f : FuncId} {args : Array Value} {w : World} {R : Ending → World → Prop} (h : Calls P f args w R) : Calls P f args w fun e w' => R e w' ∧ (e ≠ .outgrown → w.drawn ≤ w'.drawn) := by
  intro cs
  obtain ⟨e, w', fr, hR, hc, hf⟩ := h cs
  refine ⟨e, w', fr, ⟨hR, fun he => ?_⟩, hc, hf⟩
  cases e with
  | outgrown => exact absurd rfl he
  | returned v => exact steps_drawn (m := lone _ cs w) (m' := lone fr cs w') hc
  | panicked c => exact steps_drawn (m := lone _ cs w) (m' := lone fr cs w') hc
end Go.Drawn
