/-
  Joined texts: AvDr AvSf LyF SF J1. Lemmas; no statement of a law.
-/
import Derived.Lone
import Derived.Calls
import Derived.Shelf.SlSortCmp.WholeK
import Derived.Shelf.SlSortCmp.NoneTotal
import Derived.Test.YtccnhpaldmjkbaaGreatProg
import Derived.Test.YtccnhpaldmjkbaaGreatQ12
import Derived.Test.YtccnhpaldmjkbaaGreatQ30
set_option linter.unusedSimpArgs false
set_option linter.unusedVariables false
namespace Go.Av
open Go
theorem oH {p : Program} {w w' : World} {at_ : Addr} {u : TypeId} {k : Addr} {v : Value} {atomic : Bool} {l : List Addr} (h : w.viewStore p at_ u k v atomic = .ok (w', l)) : w'.drawn = w.drawn := by
  unfold World.viewStore at h
  simp only [bind, Except.bind, pure, Except.pure] at h
  repeat' first
    | (cases h; done)
    | (injection h with h; injection h with h1 h2; subst h1; rfl)
    | split at h
theorem pR {p : Program} {w w' : World} {a : Addr} {v : Value} {atomic : Bool} {l : List Addr} (h : w.farStore p a v atomic = .ok (w', l)) : w'.drawn = w.drawn := by
  unfold World.farStore at h
  split at h
  · split at h
    · rename_i r hr
      injection h with h
      subst h
      exact oH hr
    · cases h
  · cases h
theorem tH (w : World) (a : Addr) (n : Nat) : (w.freeze a n).drawn = w.drawn := by
  unfold World.freeze
  split <;> rfl
theorem mV {α : Type} : ∀ (t : Ask α) (w : World), w.drawn ≤ (w.ask t).2.drawn
  | .done a, w => by unfold World.ask; exact Nat.le_refl _
  | .ask what range k, w => by
    unfold World.ask
    simp only []
    split
    · exact mV (k 0) w
    · exact Nat.le_trans (Nat.le_succ w.drawn) (mV (k _) { w with drawn := w.drawn + 1 })
theorem sys_drawn (w : World) (c : Sys) : w.drawn ≤ (w.sys c).2.drawn := by
  have h := mV (Kernel.perform c w.os) w
  unfold World.sys
  split
  · exact Nat.le_refl _
  · rename_i e
    rw [e] at h
    exact h
def RW {α : Type} : Result α → World
  | .ok _ w => w
  | .halt _ w => w
theorem kP (p : Program) {α : Type} (s : Sem α) : ∀ w : World, w.drawn ≤ (RW (s.run p w)).drawn := by
  induction s with
  | pure a => exact fun w => Nat.le_refl _
  | load m a k ih =>
    intro w
    unfold Sem.run
    split
    · exact ih _ w
    · split
      · exact ih _ w
      · exact Nat.le_refl _
  | store m a v k ih =>
    intro w
    have hs : ∀ r : Result α, r = (match w.cell? a with
        | some _ => if w.frozen? a then .halt (.unsupported (.unsafePointer "a write to bytes that a string shares")) w else k.run p (w.setCell a v)
        | none => match w.farStore p a v (m == .atomic) with
          | .ok (w, _) => k.run p w
          | .error h => .halt h w) → w.drawn ≤ (RW r).drawn := fun r e => by
      subst e
      split
      · split
        · exact Nat.le_refl _
        · exact ih (w.setCell _ _)
      · split
        · rename_i e
          have := pR e
          exact this ▸ ih _
        · exact Nat.le_refl _
    cases v <;> first | exact hs _ rfl | exact Nat.le_refl _
  | new o k ih => intro w; unfold Sem.run; exact ih _ { w with heap := w.heap.push o }
  | shape r k ih => intro w; unfold Sem.run; exact ih _ _
  | freeze a n k ih => intro w; unfold Sem.run; exact (tH w a n) ▸ ih _
  | frozen a k ih => intro w; unfold Sem.run; exact ih _ _
  | getObj r k ih =>
    intro w
    unfold Sem.run
    split
    · exact Nat.le_refl _
    · exact ih _ _
    · exact Nat.le_refl _
  | setObj r o k ih =>
    intro w
    unfold Sem.run
    split
    · exact Nat.le_refl _
    · exact ih { w with heap := w.heap.setIfInBounds r o }
    · exact Nat.le_refl _
  | choose q k ih =>
    intro w
    unfold Sem.run
    split
    · exact ih _ w
    · exact Nat.le_trans (Nat.le_succ _) (ih _ { w with drawn := w.drawn + 1 })
  | sys c k ih => intro w; unfold Sem.run; exact Nat.le_trans (sys_drawn w c) (ih _ _)
  | program k ih => intro w; unfold Sem.run; exact ih _ _
  | mark m k ih => intro w; unfold Sem.run; exact ih _
  | halt h => exact fun w => Nat.le_refl _
theorem dJ {p : Program} {α : Type} {s : Sem α} {w w' : World} {v : α} (h : s.run p w = .ok v w') : w.drawn ≤ w'.drawn := by
  have := kP p s w
  rw [h] at this
  exact this
theorem gX {p : Program} {α : Type} {s : Sem α} {w w' : World} {v : Halt} (h : s.run p w = .halt v w') : w.drawn ≤ w'.drawn := by
  have := kP p s w
  rw [h] at this
  exact this
theorem up_runT {p : Program} {α : Type} {s : Sem α} {w w' : World} {v : α} {es es' : Array Event} (h : s.runT p w es = (.ok v w', es')) : w.drawn ≤ w'.drawn := dJ (p := p) (s := s) (by rw [← Sem.runT_fst p s w es, h])
theorem up_haltT {p : Program} {α : Type} {s : Sem α} {w w' : World} {v : Halt} {es es' : Array Event} (h : s.runT p w es = (.halt v w', es')) : w.drawn ≤ w'.drawn := gX (p := p) (s := s) (by rw [← Sem.runT_fst p s w es, h])
def GUp (d : Nat) : GStep → Prop
  | .go _ w _ => d ≤ w.drawn
  | .comm _ _ _ _ w _ => d ≤ w.drawn
  | .spawn _ _ w _ => d ≤ w.drawn
  | .count _ w _ => d ≤ w.drawn
  | .timer _ _ w _ => d ≤ w.drawn
  | .alone _ _ w _ => d ≤ w.drawn
  | .newcoro _ _ _ w _ => d ≤ w.drawn
  | .coroswitch _ _ _ w _ => d ≤ w.drawn
  | .collect _ w _ => d ≤ w.drawn
  | .watch _ w _ => d ≤ w.drawn
  | .ended _ _ _ => True
theorem GUp.after {d : Nat} {es : Array Event} {s : GStep} (h : GUp d s) : GUp d (s.after es) := by cases s <;> exact h
theorem GUp.le {d e : Nat} {s : GStep} (h : GUp e s) (hd : d ≤ e) : GUp d s := by
  cases s <;> first | trivial | exact Nat.le_trans hd h
theorem yW {d : Nat} (w : World) (fd : Nat) (t : ByteArray) (o : Outcome) : GUp d (endWith w fd t o) := by
  unfold endWith
  simp only []
  repeat' first | trivial | split
theorem jP {d : Nat} (p : Program) (fr : Frame) (v : Value) (w : World) (h : d ≤ w.drawn) : GUp d (endPrinting p fr v w) := by
  have hk : ∀ (o : Option String) (m : String → String) (x : GStep), GUp d x → GUp d (match o with | some s => endThrow fr (m s) w | none => x) := fun o m x hx => by
    cases o with
    | none => exact hx
    | some s => exact h
  unfold endPrinting
  simp only []
  exact hk _ _ _ trivial
theorem nU {d : Nat} (p : Program) (fr : Frame) (callers : List Frame) (dying : Option Dying) (m : String) (w : World) (h : d ≤ w.drawn) : GUp d (endFatal p fr callers dying m w) := by
  unfold endFatal
  simp only []
  split
  · rename_i e; exact Nat.le_trans h (dJ e)
  · trivial
  · trivial
theorem writeOn_up {d : Nat} (p : Program) (fr : Frame) (dy : Dying) (f : Fatal) (w : World) (h : d ≤ w.drawn) : GUp d (writeOn p fr dy f w) := by
  unfold writeOn
  split
  · trivial
  · simp only []
    split
    · rename_i e; exact Nat.le_trans h (up_runT e)
    · rename_i e; exact Nat.le_trans h (up_haltT e)
    · trivial
    · trivial
theorem die_up {d : Nat} (p : Program) (fr : Frame) (dy : Dying) (w : World) (h : d ≤ w.drawn) : GUp d (die p fr dy w) := by
  unfold die
  split
  · exact writeOn_up _ _ _ _ _ h
  · split
    · split
      · exact h
      · exact yW _ _ _ _
    · simp only []
      split
      · exact h
      · split
        · rename_i e; exact Nat.le_trans h (dJ e)
        · trivial
      · simp only [Sem.runT_eq]
        refine GUp.after ?_
        split
        · rename_i e; exact Nat.le_trans h (dJ e)
        · rename_i e; exact Nat.le_trans h (dJ e)
        · trivial
        · rename_i e; exact jP _ _ _ _ (Nat.le_trans h (gX e))
        · trivial
      · trivial
theorem jO {d : Nat} (p : Program) (main : Bool) (fr : Frame) (callers : List Frame) (dying : Option Dying) (v : Value) (w : World) (h : d ≤ w.drawn) : GUp d (doReturn p main fr callers dying v w) := by
  unfold doReturn
  repeat' first | exact h | trivial | split
theorem oF {d : Nat} (p : Program) (fr : Frame) (callers : List Frame) (dying : Option Dying) (df : Deferred) (w : World) (h : d ≤ w.drawn) : GUp d (callDeferred p fr callers dying df w) := by
  have hk : ∀ (c : Bool) (a b : GStep), GUp d a → GUp d b → GUp d (if c then a else b) := fun c a b ha hb => by cases c <;> assumption
  unfold callDeferred
  refine hk _ _ _ trivial ?_
  · simp only [Sem.runT_eq]
    refine GUp.after ?_
    have hr := kP p (invoke df.target df.args) w
    revert hr
    generalize (invoke df.target df.args).run p w = r
    intro hr
    have hd := Nat.le_trans h hr
    repeat' first
      | trivial
      | exact hd
      | exact nU _ _ _ _ _ _ hd
      | exact endThrow_up _ _ _ hd
      | split
theorem unwind_up {d : Nat} (p : Program) (main : Bool) (fr : Frame) (callers : List Frame) (dying : Option Dying) (w : World) (h : d ≤ w.drawn) : GUp d (unwind p main fr callers dying w) := by
  unfold unwind
  split
  · simp only [Sem.runT_eq]
    refine GUp.after ?_
    split
    · rename_i e; exact Nat.le_trans h (dJ e)
    · trivial
  · exact oF _ _ _ _ _ _ h
  · split
    · trivial
    · split
      · trivial
      · split
        · exact h
        · split
          · split
            · exact h
            · split
              · rename_i e; exact Nat.le_trans h (dJ e)
              · trivial
              · trivial
          · split
            · exact jP _ _ _ _ h
            · trivial
    · split
      · exact jO _ _ _ _ _ _ _ h
      · simp only [Sem.runT_eq]
        refine GUp.after ?_
        split
        · rename_i e; exact jO _ _ _ _ _ _ _ (Nat.le_trans h (dJ e))
        · trivial
        · trivial
theorem early_up {d : Nat} (p : Program) (fr : Frame) (callers : List Frame) (dying : Option Dying) (g : Nat) (w : World) (h : d ≤ w.drawn) : GUp d (early p fr callers dying g w) := by
  have hn : ∀ w' : World, d ≤ w'.drawn → GUp d (match w'.heap[g]? with
      | some (.pending c elem) => GStep.go { frame := fr, callers, status := .running, dying } { w' with heap := w'.heap.setIfInBounds g (.cells c elem) }
      | _ => .ended (.stuck "early: the variable does not wait" (fr.pos p)) w') := fun w' h' => by
    split
    · exact h'
    · trivial
  unfold early
  simp only []
  repeat' first
    | trivial
    | exact hn _ h
    | exact h
    | (rename_i e; exact hn _ (Nat.le_trans h (dJ e)))
    | (rename_i e; exact Nat.le_trans h (dJ e))
    | split
theorem pA {d : Nat} (p : Program) (main listen : Bool) (fr : Frame) (callers : List Frame) (dying : Option Dying) (s : Sem Next) (w : World) (h : d ≤ w.drawn) : GUp d (stepG.apply p listen fr callers dying s w) := by
  unfold stepG.apply
  simp only []
  have hr : (if listen then s.runT p w #[] else (s.run p w, #[])).1 = s.run p w := by
    split
    · exact Sem.runT_fst p s w #[]
    · rfl
  revert hr
  generalize (if listen then s.runT p w #[] else (s.run p w, #[])) = pr
  obtain ⟨r, es⟩ := pr
  intro hr
  simp only [] at hr ⊢
  have hd := kP p s w
  rw [← hr] at hd
  have hd := Nat.le_trans h hd
  clear hr
  refine GUp.after ?_
  repeat' first
    | trivial
    | exact hd
    | exact nU _ _ _ _ _ _ hd
    | exact endThrow_up _ _ _ hd
    | exact early_up _ _ _ _ _ _ hd
    | split
theorem GUp.go {d : Nat} {g : Goroutine} {w : World} {es : Array Event} (h : d ≤ w.drawn) : GUp d (.go g w es) := h
theorem GUp.ended {d : Nat} {o : Outcome} {w : World} {es : Array Event} : GUp d (.ended o w es) := trivial
theorem oper_up {d : Nat} (p : Program) (main listen : Bool) (fr : Frame) (callers : List Frame) (dying : Option Dying) (w : World) (h : d ≤ w.drawn) : GUp d (stepG.oper p listen fr callers dying w) := by
  unfold stepG.oper
  split
  · exact GUp.ended
  · split
    · exact pA p main listen _ _ _ _ _ h
    · exact pA p main listen _ _ _ _ _ h
theorem optG_up {d : Nat} {α : Type} (o : Option α) (a : GStep) (f : α → GStep) (ha : GUp d a) (hf : ∀ x, GUp d (f x)) : GUp d (o.elim a f) := by
  cases o with
  | none => exact ha
  | some x => exact hf x
theorem exec_up {d : Nat} (p : Program) (main listen : Bool) (fr : Frame) (callers : List Frame) (dying : Option Dying) (w : World) (h : d ≤ w.drawn) : GUp d (stepG.exec p main listen fr callers dying w) := by
  have hoper := oper_up p main listen fr callers dying w h
  have happly := fun fr s w h => pA (d := d) p main listen fr callers dying s w h
  have hret := fun v w h => jO (d := d) p main fr callers dying v w h
  unfold stepG.exec
  simp only [Sem.runT_eq]
  skip
  repeat' first
    | with_reducible exact GUp.ended
    | with_reducible exact GUp.go h
    | with_reducible exact hoper
    | with_reducible exact happly _ _ _ h
    | (with_reducible refine GUp.after ?_)
    | (with_reducible refine optG_up _ _ _ ?_ fun _ => ?_)
    | (rename_i e; with_reducible exact GUp.go (Nat.le_trans h (dJ e)))
    | (rename_i e; with_reducible exact GUp.go (Nat.le_trans h (gX e)))
    | (rename_i e; with_reducible exact happly _ _ _ (Nat.le_trans h (dJ e)))
    | (rename_i e; with_reducible exact hret _ _ (Nat.le_trans h (dJ e)))
    | split
theorem stepG_up (p : Program) (main : Bool) (g : Goroutine) (w : World) (listen : Bool) : GUp w.drawn (stepG p main g w listen) := by
  unfold stepG
  simp only []
  split
  · exact die_up _ _ _ _ (Nat.le_refl _)
  · exact exec_up p main listen _ _ _ _ (Nat.le_refl _)
  · exact unwind_up _ _ _ _ _ _ (Nat.le_refl _)
theorem pK (p : Program) (rest : Rest) (gs : Array Goroutine) (i : Nat) (g : Goroutine) (cases : Array CommCase) (blocking : Bool)
    (shape : CommShape) (w : World) (m' : Machine) (h : (communicate p rest gs i g cases blocking shape w).1 = .next m') : w.drawn ≤ m'.world.drawn := by
  have hw : ∀ w', waitingAt rest cases w = some w' → w.drawn ≤ w'.drawn := fun w' e => by
    unfold waitingAt at e
    repeat' first
      | (cases e; done)
      | (injection e with e; subst e; exact Nat.le_refl _)
      | split at e
  unfold communicate at h
  simp only [] at h
  repeat' first
    | (simp at h; done)
    | (simp only [Stepped.next.injEq] at h; subst h; ((try dsimp only [Machine.advanceTo]); (repeat (first | exact Nat.le_refl _ | exact hw _ (by assumption) | (refine Nat.le_trans ?_ (dJ (by assumption)); try dsimp only [Machine.advanceTo]) | refine Nat.le_trans ?_ (gX (by assumption)))); done))
    | split at h
theorem oL (p : Program) (gs : Array Goroutine) (rest : Rest) (w : World) (m' : Machine) (h : look p gs rest w = .next m') : w.drawn ≤ m'.world.drawn := by
  unfold look at h
  simp only [] at h
  repeat' first
    | (simp at h; done)
    | (simp only [Stepped.next.injEq] at h; subst h; ((try dsimp only [Machine.advanceTo]); (repeat (first | exact Nat.le_refl _ | (refine Nat.le_trans ?_ (dJ (by assumption)); try dsimp only [Machine.advanceTo]) | refine Nat.le_trans ?_ (gX (by assumption)))); done))
    | split at h
theorem drain_up (w : World) (c : Nat) : (drain w c).2.drawn = w.drawn := by
  unfold drain
  split <;> rfl
theorem sG (m : Machine) (k : Nat) (t : Timer) (a b : Nat) : (retime m k t a b).2.world.drawn = m.world.drawn := by
  unfold retime
  cases t.chan with
  | none => rfl
  | some c => exact drain_up m.world c
theorem timerOp_up (m : Machine) (op : TimerOp) (v : Value) (m' : Machine) (h : timerOp m op = .ok (v, m')) : m'.world.drawn = m.world.drawn := by
  have hnamed : ∀ (m0 : Machine) (var : Addr) (f : Nat → Timer → Value × Machine), (∀ k t, (f k t).2.world.drawn = m.world.drawn) → timerOp.named m0 var f = .ok (v, m') → m'.world.drawn = m.world.drawn := fun m0 var f hf e => by
    unfold timerOp.named at e
    split at e
    · injection e with e
      rename_i k _
      have := hf k (m0.rest.timers.getD k default)
      rw [e] at this
      exact this
    · cases e
  unfold timerOp at h
  repeat' first
    | (cases h; done)
    | (injection h with h; injection h with h1 h2; subst h2; rfl)
    | (exact hnamed _ _ _ (fun k t => sG _ _ _ _ _) h)
    | (rename_i m1 e
       have hm1 : m1.world.drawn = m.world.drawn := by
         unfold timerOp.opened at e
         repeat' first
           | (cases e; done)
           | (injection e with e; subst e; rfl)
           | split at e
       exact hnamed _ _ _ (fun k t => by rw [sG]; exact hm1) h)
    | split at h
theorem runT_up (p : Program) (m m' : Machine) (i : Nat) (b : Bool) (h : (runT p m i b).1 = .next m') : m.world.drawn ≤ m'.world.drawn := by
  simp only [runT] at h
  generalize m.gs.swapAt! _ _ = gg at h
  have hs := stepG_up p (i == 0) gg.1 m.world b
  revert hs h
  generalize stepG p _ gg.1 m.world b = s
  intro h hs
  cases s <;> simp only [] at h <;> simp only [GUp] at hs
  all_goals first
    | (simp at h; done)
    | (exact Nat.le_trans hs (pK _ _ _ _ _ _ _ _ _ _ h))
    | (exact Nat.le_trans hs (oL _ _ _ _ _ h))
    | (simp only [Stepped.next.injEq] at h; subst h; exact hs)
    | (repeat' first
        | (simp at h; done)
        | (simp only [Stepped.next.injEq] at h; subst h; exact hs)
        | (simp only [Stepped.next.injEq] at h; subst h; rename_i e; have := timerOp_up _ _ _ _ e; exact this ▸ hs)
        | (simp only [Stepped.next.injEq] at h; subst h; rename_i e; unfold endThrow dieOf at e; injection e with e1 e2 e3; subst e2; exact hs)
        | split at h)
theorem serve_up (p : Program) (m m' : Machine) (k : Nat) (h : serve p m k = .next m') : m'.world.drawn = m.world.drawn := by
  unfold serve at h
  simp only [] at h
  repeat' first
    | (simp at h; done)
    | (simp only [Stepped.next.injEq] at h; subst h; rfl)
    | split at h
theorem pB (p : Program) (m m' : Machine) (ops : Array MemOp) (h : askOn p m = .machine (.next m') ops) : m.world.drawn ≤ m'.world.drawn := by
  unfold askOn at h
  simp only [] at h
  repeat' first
    | (simp at h; done)
    | (simp only [Move.machine.injEq] at h; have h1 := serve_up _ _ _ _ h.1; rw [h1]; ((try dsimp only [Machine.advanceTo]); (repeat (first | exact Nat.le_refl _ | (refine Nat.le_trans ?_ (dJ (by assumption)); try dsimp only [Machine.advanceTo]) | refine Nat.le_trans ?_ (gX (by assumption)))); done))
    | (simp only [Move.machine.injEq, Stepped.next.injEq] at h; obtain ⟨rfl, _⟩ := h; ((try dsimp only [Machine.advanceTo]); (repeat (first | exact Nat.le_refl _ | (refine Nat.le_trans ?_ (dJ (by assumption)); try dsimp only [Machine.advanceTo]) | refine Nat.le_trans ?_ (gX (by assumption)))); done))
    | split at h
theorem mU (p : Program) (m m' : Machine) (i : Nat) (h : askOn p m = .goroutine m' i) : m.world.drawn ≤ m'.world.drawn := by
  unfold askOn at h
  simp only [] at h
  repeat' first
    | (simp at h; done)
    | (simp only [Move.goroutine.injEq] at h; obtain ⟨rfl, _⟩ := h; ((try dsimp only [Machine.advanceTo]); (repeat (first | exact Nat.le_refl _ | (refine Nat.le_trans ?_ (dJ (by assumption)); try dsimp only [Machine.advanceTo]) | refine Nat.le_trans ?_ (gX (by assumption)))); done))
    | split at h
theorem ask_up (p : Program) (m m' : Machine) (ops : Array MemOp) (h : ask p m = .machine (.next m') ops) : m.world.drawn ≤ m'.world.drawn := by
  unfold ask at h
  split at h
  · split at h
    · simp at h
    · rename_i e
      split at h
      · rename_i e2
        exact Nat.le_trans (dJ e) (Nat.le_trans (oL _ _ _ _ _ e2) (pB _ _ _ _ h))
      · simp only [Move.machine.injEq] at h
        exact Nat.le_trans (dJ e) (oL _ _ _ _ _ h.1)
    · rename_i e
      exact Nat.le_trans (dJ e) (pB _ _ _ _ h)
  · exact pB _ _ _ _ h
theorem ask_upG (p : Program) (m m' : Machine) (i : Nat) (h : ask p m = .goroutine m' i) : m.world.drawn ≤ m'.world.drawn := by
  unfold ask at h
  split at h
  · split at h
    · simp at h
    · rename_i e
      split at h
      · rename_i e2
        exact Nat.le_trans (dJ e) (Nat.le_trans (oL _ _ _ _ _ e2) (mU _ _ _ _ h))
      · simp at h
    · rename_i e
      exact Nat.le_trans (dJ e) (mU _ _ _ _ h)
  · exact mU _ _ _ _ h
theorem move_up (p : Program) (m m' : Machine) (ops : Array MemOp) (h : move p m = .machine (.next m') ops) : m.world.drawn ≤ m'.world.drawn := by
  unfold move at h
  repeat' first
    | (simp at h; done)
    | (exact ask_up _ _ _ _ h)
    | (have := ask_up _ _ _ _ h; exact this)
    | split at h
theorem move_upG (p : Program) (m m' : Machine) (i : Nat) (h : move p m = .goroutine m' i) : m.world.drawn ≤ m'.world.drawn := by
  unfold move at h
  repeat' first
    | (simp at h; done)
    | (have := ask_upG _ _ _ _ h; exact this)
    | (simp only [Move.goroutine.injEq] at h; obtain ⟨rfl, _⟩ := h; exact Nat.le_refl _)
    | split at h
theorem step_up (p : Program) (m m' : Machine) (h : step p m = .next m') : m.world.drawn ≤ m'.world.drawn := by
  simp only [step, stepT] at h
  split at h
  next m₁ i hm => exact Nat.le_trans (move_upG p m m₁ i hm) (runT_up p m₁ m' i _ h)
  next s ops hm =>
    simp only [] at h
    subst h
    exact move_up p m m' ops hm
theorem xF {p : Program} {m m' : Machine} (h : Steps p m m') : m.world.drawn ≤ m'.world.drawn := by
  obtain ⟨n, hn⟩ := h
  induction n generalizing m with
  | zero => simp only [runN, Stepped.next.injEq] at hn; rw [hn]; exact Nat.le_refl _
  | succ n ih =>
    simp only [runN] at hn
    cases hs : step p m with
    | next m₁ => rw [hs] at hn; exact Nat.le_trans (step_up p m m₁ hs) (ih hn)
    | ended o w => rw [hs] at hn; simp at hn
theorem vB {P : Program} {f : FuncId} {args : Array Value} {w : World} {R : Ending → World → Prop} (h : Calls P f args w R) (ho : ∀ w', ¬ R .outgrown w') : Calls P f args w fun e w' => R e w' ∧ w.drawn ≤ w'.drawn := by
  intro cs
  obtain ⟨e, w', fr, h1, h2, h3, h4⟩ := h cs
  refine ⟨e, w', fr, ⟨h1, ?_⟩, h2, h3, h4⟩
  cases e with
  | outgrown => exact absurd h1 (ho w')
  | returned v => exact xF (m := lone (Frame.enter P f args .normal) cs w) (m' := lone fr cs w') h2
  | panicked c => exact xF (m := lone (Frame.enter P f args .normal) cs w) (m' := lone fr cs w') h2
end Go.Av
namespace Go.Av
open Go Go.RowKit Go.Sort
open Go.Proofs (ltOf sortWorldK)
theorem rE {W w' : World} (h : Below W.heap.size W w') (hd : W.drawn ≤ w'.drawn) : ∃ q os', w' = Go.Sort.grow (W.drewN q) os' := by
  refine ⟨w'.drawn - W.drawn, w'.heap.extract W.heap.size w'.heap.size, ?_⟩
  have hh : w'.heap = W.heap ++ w'.heap.extract W.heap.size w'.heap.size := by
    refine Array.ext_getElem? fun j => ?_
    by_cases hj : j < W.heap.size
    · rw [Array.getElem?_append_left hj, h.block j hj]
    · rw [Array.getElem?_append_right (by omega), Array.getElem?_extract]
      by_cases hj2 : j < w'.heap.size
      · rw [if_pos (by omega)]
        congr 1; omega
      · rw [if_neg (by omega), Array.getElem?_eq_none (by omega)]
  have h1 := h.os
  have h2 := h.tape
  have h3 := h.output
  cases w' with
  | mk heap tape drawn os output =>
    simp only at hh h1 h2 h3 hd
    unfold Go.Sort.grow World.drewN
    simp only [World.mk.injEq]
    exact ⟨hh, h2, by omega, h1, h3⟩
theorem eV {α : Type} {enc : α → List Value} {k : Nat} (hk : ∀ x, (enc x).length = k) : ∀ l : List α, (l.flatMap enc).length = l.length * k
  | [] => by simp
  | x :: l => by rw [List.flatMap_cons, List.length_append, hk, eV hk l, List.length_cons, Nat.add_mul]; omega
section flat
variable {α : Type} [Inhabited α] {enc : α → List Value} {k : Nat}
theorem vM (hk : ∀ x, (enc x).length = k) (k0 : 0 < k) : ∀ (l : List α) (t : Nat), t < l.length * k → (l.flatMap enc)[t]? = some ((enc (l[t / k]!))[t % k]!)
  | [], t, h => by simp at h
  | x :: l, t, h => by
    rw [List.flatMap_cons]
    by_cases ht : t < k
    · rw [List.getElem?_append_left (by rw [hk]; exact ht), Nat.div_eq_of_lt ht, Nat.mod_eq_of_lt ht]
      have : t < (enc x).length := by rw [hk]; exact ht
      rw [List.getElem?_eq_getElem this]
      simp [this]
    · obtain ⟨u, rfl⟩ : ∃ u, t = k + u := ⟨t - k, by omega⟩
      rw [List.getElem?_append_right (by rw [hk]; omega), hk, Nat.add_sub_cancel_left, Nat.add_div_left _ k0, Nat.add_mod_left]
      rw [vM hk k0 l u (by rw [List.length_cons, Nat.add_mul] at h; omega)]
      simp
theorem zB (hk : ∀ x, (enc x).length = k) (k0 : 0 < k) (d : Array α) : (flatK enc k d).toList = d.toList.flatMap enc := by
  refine List.ext_getElem? fun t => ?_
  by_cases ht : t < d.size * k
  · rw [vM hk k0 d.toList t (by simpa using ht), Array.getElem?_toList]
    have h1 := get_flatK enc k d t ht
    rw [Array.getElem?_eq_getElem (by rw [size_flatK]; exact ht)]
    rw [getElem!_pos _ t (by rw [size_flatK]; exact ht)] at h1
    have h2 : t / k < d.size := Nat.div_lt_of_lt_mul (by rw [Nat.mul_comm]; exact ht)
    have h3 : d.toList[t / k]! = d[t / k]! := by rw [getElem!_pos d (t / k) h2, getElem!_pos d.toList (t / k) (by simpa using h2), Array.getElem_toList]
    rw [h1, h3]
  · rw [List.getElem?_eq_none (by simp; omega), List.getElem?_eq_none (by rw [eV hk]; simp; omega)]
end flat
theorem nW {w : World} (k : Nat) (os : Array Obj) {g : Nat} {us0 vs0 : List Value} {E : TypeId} {F : Array Value} (hb0 : w.heap[g]? = some (.cells (us0 ++ vs0).toArray E (0, 0))) (hF : F.size = us0.length) :
    (Go.Sort.grow (putRow id (Go.Sort.ahead w k) g 0 F) os).heap[g]? = some (.cells (F.toList ++ vs0).toArray E (0, 0)) ∧ (∀ b, b < w.heap.size → b ≠ g → (Go.Sort.grow (putRow id (Go.Sort.ahead w k) g 0 F) os).heap[b]? = w.heap[b]?) ∧ w.heap.size ≤ (Go.Sort.grow (putRow id (Go.Sort.ahead w k) g 0 F) os).heap.size := by
  have hgs := bN hb0
  have hsz : (putRow id (Go.Sort.ahead w k) g 0 F).heap.size = w.heap.size := by
    show (w.heap.modify g _).size = _
    rw [Array.size_modify]
  refine ⟨?_, fun b hb hbg => ?_, by rw [size_grow, hsz]; omega⟩
  · rw [heap_grow_old _ _ (by rw [hsz]; exact hgs)]
    show (w.heap.modify g _)[g]? = _
    rw [Array.getElem?_modify, if_pos rfl, hb0]
    simp only [Option.map_some, onCells]
    congr 2
    refine Array.ext_getElem? fun j => ?_
    simp only [putCells, Array.getElem?_mapIdx, List.getElem?_toArray, List.size_toArray, Nat.zero_le, true_and, Nat.zero_add, Nat.sub_zero, id_eq]
    by_cases hj : j < us0.length
    · rw [List.getElem?_append_left hj, List.getElem?_append_left (by simp; omega), List.getElem?_eq_getElem hj, Array.getElem?_toList, Array.getElem?_eq_getElem (by omega)]
      simp only [Option.map_some]
      rw [if_pos (by omega), getElem!_pos _ j (by omega)]
    · rw [List.getElem?_append_right (by omega), List.getElem?_append_right (by simp; omega)]
      simp only [Array.length_toList, hF]
      cases vs0[j - us0.length]? with
      | none => rfl
      | some x => simp only [Option.map_some]; rw [if_neg (by omega)]
  · rw [heap_grow_old _ _ (by rw [hsz]; exact hb)]
    show (w.heap.modify g _)[b]? = _
    rw [Array.getElem?_modify, if_neg (fun e => hbg e.symm)]
section split
variable {ok : Nat → Prop} {w : World} {X : Type} {encX : X → List CV} {pX : X → Prop}
abbrev El (ok : Nat → Prop) (w : World) (encX : X → List CV) (pX : X → Prop) : Type := {p : X × List Value // pX p.1 ∧ RepCs ok w (encX p.1) p.2 ∧ ∀ u ∈ p.2, u.oneCell' = true}
theorem oC : ∀ {c d : List CV} {us : List Value}, RepCs ok w (c ++ d) us → ∃ u1 u2, us = u1 ++ u2 ∧ RepCs ok w c u1 ∧ RepCs ok w d u2
  | [], d, us, h => ⟨[], us, rfl, by simp [RepCs], h⟩
  | x :: c, d, us, h => by
    simp only [List.cons_append, RepCs] at h
    obtain ⟨u, us', rfl, h1, h2⟩ := h
    obtain ⟨u1, u2, rfl, h3, h4⟩ := oC h2
    exact ⟨u :: u1, u2, rfl, ⟨u, u1, rfl, h1, h3⟩, h4⟩
theorem vG : ∀ {l : List X} {us : List Value}, RepCs ok w (l.flatMap encX) us → (∀ u ∈ us, u.oneCell' = true) → (∀ x ∈ l, pX x) → ∃ ds : List (El ok w encX pX), ds.map (·.1.1) = l ∧ ds.flatMap (·.1.2) = us
  | [], us, h, _, _ => ⟨[], rfl, by simpa [RepCs] using h.symm⟩
  | x :: l, us, h, h1, hp => by
    rw [List.flatMap_cons] at h
    obtain ⟨u1, u2, rfl, h3, h4⟩ := oC h
    obtain ⟨ds, e1, e2⟩ := vG h4 (fun u hu => h1 u (by simp [hu])) (fun x hx => hp x (by simp [hx]))
    exact ⟨⟨(x, u1), hp x (by simp), h3, fun u hu => h1 u (by simp [hu])⟩ :: ds, by simp [e1], by simp [e2]⟩
theorem el_join {w' : World} {ok' : Nat → Prop} (hk : Keeps ok ok' w w') : ∀ (ds : List (El ok w encX pX)), RepCs ok' w' ((ds.map (·.1.1)).flatMap encX) (ds.flatMap (·.1.2)) ∧ ∀ u ∈ ds.flatMap (·.1.2), u.oneCell' = true
  | [] => ⟨by simp [RepCs], by simp⟩
  | d :: ds => by
    obtain ⟨h1, h2⟩ := el_join hk ds
    refine ⟨?_, fun u hu => ?_⟩
    · rw [List.map_cons, List.flatMap_cons, List.flatMap_cons]
      exact RepCs.append (RepCs.mono hk _ _ d.2.2.1) h1
    · rw [List.flatMap_cons, List.mem_append] at hu
      exact hu.elim (d.2.2.2 u) (h2 u)
end split
theorem xC {X : Type} {cmp : X → X → Int} : ∀ {l m : List X}, l.Perm m → (l.Pairwise fun x y => ¬ cmp y x < 0) → (m.Pairwise fun x y => ¬ cmp y x < 0) → (∀ x ∈ l, ∀ y ∈ l, ¬ cmp x y < 0 → ¬ cmp y x < 0 → x = y) → l = m
  | [], m, hp, _, _, _ => (List.nil_perm.1 hp).symm
  | x :: l, [], hp, _, _, _ => absurd (List.perm_nil.1 hp) (by simp)
  | x :: l, y :: m, hp, h1, h2, ha => by
    obtain ⟨a1, a2⟩ := List.pairwise_cons.1 h1
    obtain ⟨b1, b2⟩ := List.pairwise_cons.1 h2
    have hxy : x = y := by
      have hx : x ∈ y :: m := hp.mem_iff.1 (by simp)
      have hy : y ∈ x :: l := hp.mem_iff.2 (by simp)
      rcases List.mem_cons.1 hx with e | hx
      · exact e
      · rcases List.mem_cons.1 hy with e | hy
        · exact e.symm
        · exact ha x (by simp) y (by simp [hy]) (b1 x hx) (a1 y hy)
    subst hxy
    rw [xC (List.Perm.cons_inv hp) a2 b2 fun u hu v hv => ha u (by simp [hu]) v (by simp [hv])]
def SortFC (P : Program) (f gcl : FuncId) (size : Nat) : Prop :=
  ∀ {α : Type} [Inhabited α] (enc : α → List Value) (_ : ∀ x, (enc x).length = size) (_ : ∀ x, ∀ v ∈ enc x, v.oneCell' = true) (cf : α → α → Int) (_ : SWO (ltOf cf)) (blk cap : Nat) (d : Array α) (w : World),
    Go.Proofs.CmpLays P gcl #[] enc size cf blk 0 d.size w → HoldsK enc size w blk 0 d → blk < w.heap.size → d.size < 4611686018427387904 →
    Calls P f #[.slice (some ⟨blk, 0, none⟩) d.size cap, .func (.func gcl) #[] #[]] w fun e w' => e = .returned (.tuple #[]) ∧ ∃ d' n os, PermIn 0 d.size d d' ∧ SortedIn (ltOf cf) 0 d.size d' ∧ w' = sortWorldK enc size w blk 0 n d' os
theorem acs_sortF {P : Program} {f gcl : FuncId} {E : TypeId} {X : Type} {size : Nat} {encX : X → List CV} {cmp : X → X → Int} (pX : X → Prop) {l l' : List X} {n : Nat} (hs : SortFC P f gcl size) (hn : l.length = n) (h0 : 0 < n) (hn62 : n < 4611686018427387904) (hsz : 0 < size) (hlen : ∀ x, (encX x).length = size)
    (hc : ∀ x y, pX x → pX y → AC P gcl [.agg (encX x), .agg (encX y)] (.c (.v (.int .i64 (cmp x y)))) [] 0) (hp : ∀ x ∈ l, pX x) (hO : SWO (ltOf cmp)) (hperm : l'.Perm l) (hsrt : l'.Pairwise fun x y => ¬ cmp y x < 0) (hanti : ∀ x ∈ l, ∀ y ∈ l, ¬ cmp x y < 0 → ¬ cmp y x < 0 → x = y) :
    ACS P f E size n (l.flatMap encX) [CV.v (.func (.func gcl) #[] #[])] (l'.flatMap encX) (.tup []) := by
  intro ok w g cap us0 vs0 vs hng hb0 hc0 hone hncap hcap hlen0 hvs
  have hvs' : vs = [.func (.func gcl) #[] #[]] := by
    simp only [RepCs, RepC] at hvs
    obtain ⟨u, us', rfl, rfl, rfl⟩ := hvs
    rfl
  subst hvs'
  have hgs := bN hb0
  obtain ⟨ds, e1, e2⟩ := vG (pX := pX) hc0 hone hp
  have hdl : ds.length = n := by rw [← hn, ← e1, List.length_map]
  haveI : Inhabited (El ok w encX pX) := ⟨ds[0]'(by omega)⟩
  let enc : El ok w encX pX → List Value := fun p => p.1.2
  have hk : ∀ x, (enc x).length = size := fun x => by rw [← hlen x.1.1]; exact x.2.2.1.length
  have h1 : ∀ x, ∀ v ∈ enc x, v.oneCell' = true := fun x => x.2.2.2
  let cf : El ok w encX pX → El ok w encX pX → Int := fun a b => cmp a.1.1 b.1.1
  have hO' : SWO (ltOf cf) := ⟨fun x => hO.irrefl x.1.1, fun x y z => hO.trans x.1.1 y.1.1 z.1.1, fun x y z => hO.ntrans x.1.1 y.1.1 z.1.1⟩
  have hfl : ∀ d : Array (El ok w encX pX), (flatK enc size d).toList = d.toList.flatMap enc := zB hk hsz
  have hfs : ∀ d : Array (El ok w encX pX), d.size = n → (flatK enc size d).size = us0.length := fun d hd => by
    rw [size_flatK, hd, ← e2, eV hk, hdl]
  have hH : HoldsK enc size w g 0 ds.toArray := fun j hj => by
    have hj' : j < (ds.flatMap enc).length := by
      rw [size_flatK] at hj
      rw [eV hk]; simpa using hj
    have hg1 : (flatK enc size ds.toArray)[j]! = (ds.flatMap enc)[j] := by
      rw [getElem!_pos _ j hj, ← Array.getElem_toList]
      simp only [hfl]
    have e3 : (us0 ++ vs0)[0 + j]? = some ((ds.flatMap enc)[j]) := by
      rw [Nat.zero_add, List.getElem?_append_left (by rw [← e2]; exact hj'), ← e2]
      exact List.getElem?_eq_getElem hj'
    constructor
    · unfold World.cell?
      rw [hb0]
      simp only [hg1]
      simpa using e3
    · unfold World.frozen?
      rw [hb0]
      simp
  have hworld : ∀ (m : Nat) (os : Array Obj) (dk : Array (El ok w encX pX)), dk.size = n → Keeps ok ok w (sortWorldK enc size w g 0 m dk os) := fun m os dk hd b hb hl => by
    obtain ⟨_, h3, h4⟩ := nW (w := w) m os hb0 (hfs dk hd)
    exact ⟨hb, Nat.lt_of_lt_of_le hl h4, h3 b hl (fun e => hng (e ▸ hb))⟩
  have hcmp : Go.Proofs.CmpLays P gcl #[] enc size cf g 0 ds.toArray.size w := fun m os dk hd x y => by
    have hkp := hworld m os dk (by rw [hd]; simpa using hdl)
    have hr : RepCs ok (sortWorldK enc size w g 0 m dk os) [.agg (encX x.1.1), .agg (encX y.1.1)] [.agg (enc x).toArray, .agg (enc y).toArray] := by
      refine ⟨_, _, rfl, ⟨enc x, rfl, RepCs.mono hkp _ _ x.2.2.1, h1 x⟩, _, _, rfl, ⟨enc y, rfl, RepCs.mono hkp _ _ y.2.2.1, h1 y⟩, rfl⟩
    have hcall := hc x.1.1 y.1.1 x.2.1 y.2.1 ok (sortWorldK enc size w g 0 m dk os) _ hr
    have hcd := vB hcall (fun w' ⟨v, M, e, _⟩ => by cases e)
    rw [show (#[Value.agg (enc x).toArray, Value.agg (enc y).toArray] ++ #[] : Array Value) = [Value.agg (enc x).toArray, Value.agg (enc y).toArray].toArray by simp]
    refine hcd.mono ?_
    rintro e w' ⟨⟨v, M, rfl, hcc, hv⟩, hdr⟩
    simp only [Rep, RepC] at hv
    subst hv
    exact ⟨rfl, rE hcc.fr.below hdr⟩
  have hcall := hs enc hk h1 cf hO' g cap ds.toArray w hcmp hH hgs (by
    have : ds.toArray.size = n := by simpa using hdl
    omega)
  have hds : ds.toArray.size = n := by simpa using hdl
  rw [hds] at hcall
  refine hcall.mono ?_
  rintro e w' ⟨rfl, d', m, os, hpm, hsd, rfl⟩
  have hd's : d'.size = n := by rw [hpm.1, hds]
  have hpl : d'.toList.Perm ds := by
    have := hpm.2.2
    rw [show d'.extract 0 n = d' by rw [← hd's]; exact Array.extract_size, show ds.toArray.extract 0 n = ds.toArray by rw [← hds]; exact Array.extract_size] at this
    simpa using this
  have hmap : d'.toList.map (·.1.1) = l' := by
    refine xC (cmp := cmp) ((hpl.map _).trans (by rw [e1]; exact hperm.symm)) ?_ hsrt fun x hx y hy => ?_
    · rw [List.pairwise_map, List.pairwise_iff_getElem]
      intro i j hi hj hij
      have hi' : i < d'.size := by simpa using hi
      have hj' : j < d'.size := by simpa using hj
      have := hsd i j (Nat.zero_le _) hij (by omega)
      rw [getElem!_pos d' j hj', getElem!_pos d' i hi'] at this
      simp only [Array.getElem_toList]
      exact of_decide_eq_false this
    · have hm : ∀ z, z ∈ d'.toList.map (·.1.1) → z ∈ l := fun z hz => by
        rw [← e1]
        exact ((hpl.map _).mem_iff).1 hz
      exact hanti x (hm x hx) y (hm y hy)
  obtain ⟨p1, p2, p3⟩ := nW (w := w) m os hb0 (hfs d' hd's)
  rw [hfl] at p1
  have hkp : Keeps ok (okg ok w g) w (sortWorldK enc size w g 0 m d' os) := fun b hb hl => ⟨⟨.inl hb, fun e => hng (e ▸ hb)⟩, Nat.lt_of_lt_of_le hl p3, p2 b hl (fun e => hng (e ▸ hb))⟩
  obtain ⟨j1, j2⟩ := el_join hkp d'.toList
  rw [hmap] at j1
  refine ⟨_, d'.toList.flatMap enc, vs0, rfl, ⟨rfl, rfl, rfl, p3, fun b hb hbg => p2 b hb (fun e => hbg (by simp [e]))⟩, p1, ?_, j1, j2, fun C => ⟨[], rfl, rfl⟩⟩
  rw [← hlen0, ← e2, eV hk, eV hk, hdl, Array.length_toList, hd's]
section call
variable {P : Program} {sz n : Nat} {env : Env} {h : Heap} {dfs : Defs} {K : AK} {ops : Array Oper} {rest : List Oper} {ev : Evl} {d : Option Tmp} {ty : TypeId} {pos : String} {aft : Array Edge} {gd : Option (Nat × Bool)} {i : Nat} {f gcl : FuncId} {x0 y : Operand} {ats : Array TypeId} {E : TypeId} {c0 c0' c1 : List CV} {r : AV} {id size m : Nat}
open Classical in
theorem e_callSF (hac : ACS P f E size m c0 [CV.v (.func (.func gcl) #[] #[])] c1 r) (hb : Body P f) (hm : 0 < m) (hx0 : ev x0 = some (.own id 0 m size true)) (ho : lk h id = some (.row E c0)) (hy : ev y = some (.fn gcl [])) :
    EStep P ⟨d, .call ⟨.value (.func f), #[x0, y], ats⟩, ty, pos, aft, gd⟩ ev h r [] (some (id, some (.row E c1))) i i := by
  -- the closure's value is read as a closed one
  let ev' : Evl := fun z => if z = y ∧ z ≠ x0 then some (.c (.v (.func (.func gcl) #[] #[]))) else ev z
  have hne : y ≠ x0 := fun e => by rw [e, hx0] at hy; cases hy
  have h1 := e_callS (ev := ev') (h := h) (d := d) (ty := ty) (pos := pos) (aft := aft) (gd := gd) (i := i) (xs := [y]) (ats := ats) (cs := [CV.v (.func (.func gcl) #[] #[])]) hac hb hm (x0 := x0) (by simp only [ev']; rw [if_neg (fun h => h.2 rfl)]; exact hx0) ho (by simp [argsC, ev', hne]) (fun _ _ _ h => h)
  intro B dom M H w a K Q hh hn hc he hK
  refine h1 B dom M H w a K Q hh hn hc (fun z av hz => ?_) hK
  simp only [ev'] at hz
  split at hz
  · rename_i e
    injection hz with hz
    subst hz
    have := he y _ hy
    rw [e.1]
    simp only [Rep, RepL] at this
    obtain ⟨us, e1, e2⟩ := this
    subst e2
    simpa only [Rep, RepC] using e1
  · exact he z av hz
theorem yV (hs : ∀ (p : Option Addr) (cap : Nat) (fv : Value) (w : World), Calls P f #[.slice p 0 cap, fv] w fun e w' => e = .returned (.tuple #[]) ∧ w' = w) (hb : Body P f) {full : Bool} (hm0 : m = 0) (hx0 : ev x0 = some (.own id 0 m size full)) (hy : ev y = some (.fn gcl [])) :
    EStep P ⟨d, .call ⟨.value (.func f), #[x0, y], ats⟩, ty, pos, aft, gd⟩ ev h (.tup []) [] none i i := by
  subst hm0
  intro B dom M H w a K Q hh hn hc he hK
  have hp := he x0 _ hx0
  simp only [Rep] at hp
  have hu : ∃ p cap, a.eval x0 = .slice p 0 cap := by
    rcases hp.2 with ⟨_, _, _, e⟩ | ⟨g, cp, _, e, _⟩ | ⟨_, _, A, cp, e, _⟩
    · exact ⟨_, _, e⟩
    · exact ⟨_, _, e⟩
    · exact ⟨_, _, e⟩
  obtain ⟨p, cap, hu⟩ := hu
  unfold Oper.wp execOp
  simp only [resolve, Deferred.ofValue, Act.eval, invoke, Sem.run_bind, Sem.run_pure, Result.andThen_ok, List.map_toArray, Array.append_empty, Body.run hb, Oper.upon]
  rw [show (#[] ++ (List.map a.eval [x0, y]).toArray : Array Value) = #[.slice p 0 cap, a.eval y] by simp [hu]]
  refine (hs p cap (a.eval y) w).mono ?_
  rintro e w' ⟨rfl, rfl⟩
  simp only
  rw [cQ] at hK
  exact hK (.tuple #[]) w' M (Ext.refl _) hc ⟨[], rfl, rfl⟩
theorem tC (hs : ∀ (p : Option Addr) (cap : Nat) (fv : Value) (w : World), Calls P f #[.slice p 0 cap, fv] w fun e w' => e = .returned (.tuple #[]) ∧ w' = w) (hg : guardA ops env ⟨d, .call ⟨.value (.func f), #[x0, y], ats⟩, ty, pos, aft, gd⟩ true) (hd : dstOk d sz = true) (hb : Body P f) {full : Bool} (hm0 : m = 0) (hx0 : evA env x0 = some (.own id 0 m size full)) (hy : evA env y = some (.fn gcl []))
    (next : AWL P ops sz rest K n (putE env d (.tup [])) h dfs) : AWL P ops sz (⟨d, .call ⟨.value (.func f), #[x0, y], ats⟩, ty, pos, aft, gd⟩ :: rest) K n env h dfs :=
  gN (c := none) (Δ := []) hg hd (Nat.le_refl _) trivial (yV hs hb hm0 hx0 hy) (fun id h1 h2 => by omega) (by simp) next
theorem yJ (hac : ACS P f E size m c0 [CV.v (.func (.func gcl) #[] #[])] c1 r) (hg : guardA ops env ⟨d, .call ⟨.value (.func f), #[x0, y], ats⟩, ty, pos, aft, gd⟩ true) (hd : dstOk d sz = true) (hb : Body P f) (hm : 0 < m) (hx0 : evA env x0 = some (.own id 0 m size true)) (ho : lk h id = some (.row E c0')) (h0 : c0' = c0) (hy : evA env y = some (.fn gcl []))
    (next : AWL P ops sz rest K n (putE env d r) ((id, .row E c1) :: h) dfs) : AWL P ops sz (⟨d, .call ⟨.value (.func f), #[x0, y], ats⟩, ty, pos, aft, gd⟩ :: rest) K n env h dfs := by
  subst h0
  exact gN (c := some (id, some (.row E c1))) (Δ := []) hg hd (Nat.le_refl _) rfl (e_callSF hac hb hm hx0 ho hy) (fun id h1 h2 => by omega) (by simp) next
end call
end Go.Av
namespace Go.Proofs.YtccnhpaldmjkbaaGreat
open Go.Shelf Go.Proofs
def Tryz.srtF_ren : Go.Shelf.Ren := ⟨fun | 6 => 86 | 15 => 140 | 14 => 139 | 28 => 171 | 29 => 172 | 20 => 163 | 21 => 164 | 22 => 165 | 23 => 166 | 24 => 167 | 25 => 168 | 26 => 169 | 27 => 170 | 46 => 191 | 47 => 192 | 48 => 193 | 49 => 194 | 50 => 195 | 57 => 211 | n => n, fun | 22 => 25 | 24 => 68 | 25 => 110 | 3 => 3 | 39 => 94 | 0 => 0 | 53 => 171 | 55 => 124 | 4 => 4 | 46 => 165 | 45 => 164 | 50 => 104 | 5 => 5 | 9 => 9 | 66 => 185 | 70 => 189 | 76 => 200 | 77 => 201 | n => n, fun | n => n⟩
theorem Tryz.srtF : Go.Proofs.SlLaysF0.n6 Tryz.prog Tryz.srtF_ren := {
  mixed := by kernel_rfl
  f6 := ⟨Tryz.f86.name, by decide, Tryz.func86.trans (congrArg some (by kernel_rfl))⟩
  f14 := ⟨Tryz.f139.name, by decide, Tryz.func139.trans (congrArg some (by kernel_rfl))⟩
  f15 := Tryz.func140.trans (congrArg some (by kernel_rfl))
  f20 := ⟨Tryz.f163.name, by decide, Tryz.func163.trans (congrArg some (by kernel_rfl))⟩
  f21 := ⟨Tryz.f164.name, by decide, Tryz.func164.trans (congrArg some (by kernel_rfl))⟩
  f22 := ⟨Tryz.f165.name, by decide, Tryz.func165.trans (congrArg some (by kernel_rfl))⟩
  f23 := ⟨Tryz.f166.name, by decide, Tryz.func166.trans (congrArg some (by kernel_rfl))⟩
  f24 := ⟨Tryz.f167.name, by decide, Tryz.func167.trans (congrArg some (by kernel_rfl))⟩
  f25 := ⟨Tryz.f168.name, by decide, Tryz.func168.trans (congrArg some (by kernel_rfl))⟩
  f26 := ⟨Tryz.f169.name, by decide, Tryz.func169.trans (congrArg some (by kernel_rfl))⟩
  f27 := ⟨Tryz.f170.name, by decide, Tryz.func170.trans (congrArg some (by kernel_rfl))⟩
  f28 := Tryz.func171.trans (congrArg some (by kernel_rfl))
  f29 := Tryz.func172.trans (congrArg some (by kernel_rfl))
  f46 := ⟨Tryz.f191.name, by decide, Tryz.func191.trans (congrArg some (by kernel_rfl))⟩
  f47 := Tryz.func192.trans (congrArg some (by kernel_rfl))
  f48 := Tryz.func193.trans (congrArg some (by kernel_rfl))
  f49 := ⟨Tryz.f194.name, by decide, Tryz.func194.trans (congrArg some (by kernel_rfl))⟩
  f50 := ⟨Tryz.f195.name, by decide, Tryz.func195.trans (congrArg some (by kernel_rfl))⟩
  f57 := ⟨Tryz.f211.name, by decide, Tryz.func211.trans (congrArg some (by kernel_rfl))⟩
  t0 := Tryz.underlying0
  a0 := Tryz.isAgg0
  z0 := Tryz.sizeOf0
  v0 := Tryz.zeroValue0
  t3 := Tryz.underlying3
  a3 := Tryz.isAgg3
  z3 := Tryz.sizeOf3
  v3 := Tryz.zeroValue3
  t4 := Tryz.underlying4
  a4 := Tryz.isAgg4
  z4 := Tryz.sizeOf4
  v4 := Tryz.zeroValue4
  t5 := Tryz.underlying5
  a5 := Tryz.isAgg5
  z5 := Tryz.sizeOf5
  v5 := Tryz.zeroValue5
  t9 := Tryz.underlying9
  a9 := Tryz.isAgg9
  z9 := Tryz.sizeOf9
  v9 := Tryz.zeroValue9
  t22 := Tryz.underlying25
  a22 := Tryz.isAgg25
  z22 := Tryz.sizeOf25
  v22 := Tryz.zeroValue25
  t25 := Tryz.underlying110
  a25 := Tryz.isAgg110
  z25 := Tryz.sizeOf110
  v25 := Tryz.zeroValue110
  t39 := Tryz.underlying94
  a39 := Tryz.isAgg94
  z39 := Tryz.sizeOf94
  v39 := Tryz.zeroValue94
  t45 := Tryz.underlying164
  a45 := Tryz.isAgg164
  z45 := Tryz.sizeOf164
  v45 := Tryz.zeroValue164
  t46 := Tryz.underlying165
  a46 := Tryz.isAgg165
  z46 := Tryz.sizeOf165
  v46 := Tryz.zeroValue165
  t50 := Tryz.underlying104
  a50 := Tryz.isAgg104
  z50 := Tryz.sizeOf104
  v50 := Tryz.zeroValue104
  t53 := Tryz.underlying171
  a53 := Tryz.isAgg171
  z53 := Tryz.sizeOf171
  v53 := Tryz.zeroValue171
  t55 := Tryz.underlying124
  a55 := Tryz.isAgg124
  z55 := Tryz.sizeOf124
  v55 := Tryz.zeroValue124
  t66 := Tryz.underlying185
  a66 := Tryz.isAgg185
  z66 := Tryz.sizeOf185
  v66 := Tryz.zeroValue185
  t70 := Tryz.underlying189
  a70 := Tryz.isAgg189
  z70 := Tryz.sizeOf189
  v70 := Tryz.zeroValue189
  t76 := Tryz.underlying200
  a76 := Tryz.isAgg200
  z76 := Tryz.sizeOf200
  v76 := Tryz.zeroValue200
  t77 := Tryz.underlying201
  a77 := Tryz.isAgg201
  z77 := Tryz.sizeOf201
  v77 := Tryz.zeroValue201 }
end Go.Proofs.YtccnhpaldmjkbaaGreat
namespace Go.Proofs.YtccnhpaldmjkbaaGreat
open Go Go.RowKit Go.Av
set_option maxRecDepth 100000
theorem sortF_E (gcl : Nat) (hb : Body Tryz.prog gcl) : SortFC Tryz.prog 86 gcl 2 := by
  intro α _ enc hk h1 cf hO blk cap d w hC hH hblk hsz
  exact Go.Proofs.AnyQ.slices_SortFunc Tryz.srtF 2 Tryz.isAgg68 Tryz.sizeOf68 enc hk h1 cf hO gcl #[] blk 0 cap d w (fun args w => hb.run args w) hC hH hblk hsz
theorem zZ (p : Option Addr) (cap : Nat) (fv : Value) (w : World) : Calls Tryz.prog 86 #[.slice p 0 cap, fv] w fun e w' => e = .returned (.tuple #[]) ∧ w' = w :=
  Go.Proofs.AnyF.slices_SortFunc_none { Tryz.srtF with } p cap fv w
end Go.Proofs.YtccnhpaldmjkbaaGreat
namespace Go.Proofs.YtccnhpaldmjkbaaGreat
open Go Go.RowKit Go.Av
set_option maxRecDepth 100000
theorem tM : Idle Tryz.prog 83 0 := by
  intro us w hl
  obtain ⟨_, rfl⟩ : ∃ _ : Unit, us = [] := by
    match us, hl with | [], _ => exact ⟨(), rfl⟩
  refine callsD_of_wpS Tryz.func83 rfl fun c₀ cs hu => ?_
  apply wpS_region
  simp [wpOpsS, go_sem, recoverD, hu, Tryz.ntmps83, Exit.thenS]
  cases c₀
  simp_all [bodyPostS, results, Tryz.results83]
theorem nF : Body Tryz.prog 83 := by unfold Body; kernel_rfl
def Mt.cc (m : Mt) : List CV := [.sl 3 m.r.length (rc m.r), iv m.c, iv m.n]
def fc (F : List Mt) : List CV := F.flatMap Mt.cc
theorem fc_length (F : List Mt) : (fc F).length = F.length * 3 := by
  induction F with
  | nil => rfl
  | cons m F ih => simp only [fc, List.flatMap_cons, List.length_append, List.length_cons] at ih ⊢; rw [ih]; simp [Mt.cc]; omega
theorem fc_app (F G : List Mt) : fc (F ++ G) = fc F ++ fc G := by simp [fc]
theorem fc_at : ∀ {F : List Mt} {i : Nat} {m : Mt}, F[i]? = some m → ((fc F).drop (i * 3)).take 3 = m.cc
  | [], i, m, h => by simp at h
  | k :: F, 0, m, h => by
    simp at h
    subst h
    rfl
  | k :: F, i + 1, m, h => by
    have := fc_at (F := F) (i := i) (by simpa using h)
    rw [← this]
    simp only [fc, List.flatMap_cons]
    rw [show (i + 1) * 3 = k.cc.length + i * 3 by simp [Mt.cc]; omega, List.drop_append, List.drop_eq_nil_of_le (by omega), List.nil_append, Nat.add_sub_cancel_left]
theorem fc_get {F : List Mt} {i k : Nat} {m : Mt} (h : F[i]? = some m) (hk : k < 3) : (fc F)[i * 3 + k]? = m.cc[k]? := by
  rw [← fc_at h, List.getElem?_take_of_lt hk, List.getElem?_drop]
theorem fc_c {F : List Mt} {i : Nat} {m : Mt} (h : F[i]? = some m) : (fc F)[i * 3 + 1]? = some (iv m.c) := fc_get (k := 1) h (by omega)
theorem fc_n {F : List Mt} {i : Nat} {m : Mt} (h : F[i]? = some m) : (fc F)[i * 3 + 2]? = some (iv m.n) := fc_get (k := 2) h (by omega)
theorem fc_set : ∀ {F : List Mt} {j : Nat} {m : Mt} (c : Nat) (n : Int), F[j]? = some m → ((fc F).set (j * 3 + 1) (iv c)).set (j * 3 + 2) (iv n) = fc (F.set j ⟨m.r, c, n⟩)
  | [], j, m, c, n, h => by simp at h
  | k :: F, 0, m, c, n, h => by
    simp at h
    subst h
    rfl
  | k :: F, j + 1, m, c, n, h => by
    have ih := fc_set (F := F) (j := j) c n (by simpa using h)
    have e : fc (k :: F) = [.sl 3 k.r.length (rc k.r), iv k.c, iv k.n] ++ fc F := rfl
    rw [e, show (j + 1) * 3 + 1 = (j * 3 + 1) + 3 by omega, show (j + 1) * 3 + 2 = (j * 3 + 2) + 3 by omega]
    simp only [List.cons_append, List.nil_append, List.set_cons_succ, ih]
    rfl
def wtab (D : List Wd) : List (Value × CV) := D.map fun w => (.string ⟨w.toArray⟩, bv true)
def ptab (F : List Mt) : List (Value × CV) := F.zipIdx.map fun m => (.string ⟨(encR m.1.r).toArray⟩, iv m.2)
theorem oW {a b : List UInt8} (h : a ≠ b) : (Value.string ⟨a.toArray⟩) ≠ .string ⟨b.toArray⟩ := fun e => h (by injection e with e; injection e with e; simpa using e)
theorem xZ (D : List Wd) : ∀ s ∈ wtab D, isKeyT .str s.1 := fun s hs => by
  obtain ⟨x, hx, rfl⟩ := List.mem_map.1 hs
  exact trivial
theorem ptab_key (F : List Mt) : ∀ s ∈ ptab F, isKeyT .str s.1 := fun s hs => by
  obtain ⟨x, hx, rfl⟩ := List.mem_map.1 hs
  exact trivial
theorem w_first : ∀ {D : List Wd} {w : Wd}, w ∈ D → ∃ k : Nat, D[k]? = some w ∧ ∀ (q : Nat) (s : Wd), q < k → D[q]? = some s → s ≠ w
  | x :: D, w, h => by
    by_cases e : x = w
    · exact ⟨0, by simp [e], fun q s hq => by omega⟩
    · rcases List.mem_cons.1 h with h | h
      · exact absurd h.symm e
      · obtain ⟨k, h1, h2⟩ := w_first h
        refine ⟨k + 1, by simpa using h1, fun q s hq hs => ?_⟩
        cases q with
        | zero => simp at hs; exact hs ▸ e
        | succ q => exact h2 q s (by omega) (by simpa using hs)
theorem wtab_at {D : List Wd} {w : Wd} (h : w ∈ D) : ∃ k, MAt (.string ⟨w.toArray⟩) (.c (bv true)) (tabG (wtab D)) k ∧ (tabG (wtab D)).set k (.v (.string ⟨w.toArray⟩), .c (bv true)) = tabG (wtab D) := by
  obtain ⟨k, h1, h2⟩ := w_first h
  have h3 : (wtab D)[k]? = some (.string ⟨w.toArray⟩, bv true) := by simp [wtab, h1]
  refine ⟨k, oX (s := (.string ⟨w.toArray⟩, bv true)) (fun q s' hq hs => ?_) h3 rfl, ?_⟩
  · simp only [wtab, List.getElem?_map, Option.map_eq_some_iff] at hs
    obtain ⟨v, hv, rfl⟩ := hs
    exact oW (h2 q v hq hv)
  · rw [tabG_set]
    congr 1
    refine List.ext_getElem? fun i => ?_
    rw [List.getElem?_set]
    by_cases hi : k = i
    · subst hi
      rw [if_pos rfl, if_pos (List.getElem?_eq_some_iff.1 h3).1, h3]
    · rw [if_neg hi]
theorem wtab_no {D : List Wd} {w : Wd} (h : w ∉ D) : MNo (.string ⟨w.toArray⟩) (tabG (wtab D)) := uR fun s hs => by
  obtain ⟨x, hx, rfl⟩ := List.mem_map.1 hs
  exact oW fun e => h (e ▸ hx)
theorem wtab_app (D : List Wd) (w : Wd) : tabG (wtab D) ++ [(.v (.string ⟨w.toArray⟩), .c (bv true))] = tabG (wtab (D ++ [w])) := by rw [xM]; simp [wtab]
theorem ptab_app (F : List Mt) (m : Mt) : tabG (ptab F) ++ [(.v (.string ⟨(encR m.r).toArray⟩), .c (iv F.length))] = tabG (ptab (F ++ [m])) := by rw [xM]; simp [ptab, List.zipIdx_append]
theorem jZ (F : List Mt) (i : Nat) : (ptab F)[i]? = F[i]?.map fun m => (.string ⟨(encR m.r).toArray⟩, iv i) := by
  unfold ptab
  rw [List.getElem?_map, List.getElem?_zipIdx]
  cases F[i]? <;> simp
theorem ptab_set {F : List Mt} {j : Nat} {m : Mt} (h : F[j]? = some m) (c : Nat) (n : Int) : ptab (F.set j ⟨m.r, c, n⟩) = ptab F := by
  refine List.ext_getElem? fun i => ?_
  rw [jZ, jZ, List.getElem?_set]
  by_cases hi : j = i
  · subst hi
    rw [if_pos rfl, if_pos (List.getElem?_eq_some_iff.1 h).1, h]; rfl
  · rw [if_neg hi]
theorem ptab_at {F : List Mt} (ho : ∀ m ∈ F, ∀ v ∈ m.r, okP v) {j : Nat} {m : Mt} (h : F[j]? = some m) (hq : ∀ (q : Nat) (k : Mt), q < j → F[q]? = some k → k.r ≠ m.r) : MAt (.string ⟨(encR m.r).toArray⟩) (.c (iv j)) (tabG (ptab F)) j := by
  refine oX (s := (.string ⟨(encR m.r).toArray⟩, iv j)) (fun q s' hqj hs => ?_) (by rw [jZ, h]; rfl) rfl
  rw [jZ] at hs
  obtain ⟨k, hk, rfl⟩ := Option.map_eq_some_iff.1 hs
  exact oW fun e => hq q k hqj hk (pP (ho k (List.mem_of_getElem? hk)) (ho m (List.mem_of_getElem? h)) e)
theorem ptab_no {F : List Mt} (ho : ∀ m ∈ F, ∀ v ∈ m.r, okP v) {r : List Vl} (hr : ∀ v ∈ r, okP v) (h : ∀ m ∈ F, m.r ≠ r) : MNo (.string ⟨(encR r).toArray⟩) (tabG (ptab F)) := uR fun s hs => by
  obtain ⟨i, hi⟩ := List.mem_iff_getElem?.1 hs
  rw [jZ] at hi
  obtain ⟨k, hk, rfl⟩ := Option.map_eq_some_iff.1 hi
  exact oW fun e => h k (List.mem_of_getElem? hk) (pP (ho k (List.mem_of_getElem? hk)) hr e)
def selE (k : Nat) (F : List Mt) : List En := (F.filter fun m => decide (k ≤ m.c)).map fun m => ⟨m.r, m.n⟩
theorem selE_step {k : Nat} {F : List Mt} {i : Nat} {m : Mt} (h : F[i]? = some m) : selE k (F.take (i + 1)) = if k ≤ m.c then selE k (F.take i) ++ [⟨m.r, m.n⟩] else selE k (F.take i) := by
  unfold selE
  rw [List.take_add_one, h, Option.toList_some, List.filter_append]
  by_cases hw : k ≤ m.c
  · rw [if_pos hw, List.filter_cons, if_pos (decide_eq_true hw), List.map_append]; rfl
  · rw [if_neg hw, List.filter_cons, if_neg (fun h => hw (of_decide_eq_true h))]; simp
theorem wW (k : Nat) (F : List Mt) : (selE k F).length ≤ F.length := by unfold selE; rw [List.length_map]; exact List.length_filter_le _ _
theorem fnd_len (ws : List Wd) (q : List Po) : (fnd ws q).length ≤ q.length := by
  refine snocI (p := fun q => (fnd ws q).length ≤ q.length) ?_ ?_ q
  · exact Nat.le_refl _
  · intro l x ih
    rw [pU, List.length_append, List.length_singleton]
    unfold fndF
    split
    · rcases oN (fnd ws l) x.r with ⟨j, m, e1, e2, e3⟩ | e1
      · rw [oQ e1 e2 e3, List.length_set]; omega
      · rw [oR e1, List.length_append, List.length_singleton]; omega
    · omega
theorem swo_R : Go.Sort.SWO (Go.Proofs.ltOf fun x y : En => cmpR x.r y.r) where
  irrefl x := decide_eq_false (by have := dE x.r; show ¬ cmpR x.r x.r < 0; omega)
  trans x y z h1 h2 := decide_eq_true (gc_R.lt (of_decide_eq_true h1) (of_decide_eq_true h2))
  ntrans x y z h1 h2 := by
    have h1 : ¬ cmpR x.r y.r < 0 := of_decide_eq_false h1
    have h2 : ¬ cmpR y.r z.r < 0 := of_decide_eq_false h2
    have a1 := gc_R.anti x.r y.r
    have a2 := gc_R.anti y.r z.r
    have a3 := gc_R.anti x.r z.r
    have := gc_R.tr z.r y.r x.r (by omega) (by omega)
    exact decide_eq_false (by show ¬ cmpR x.r z.r < 0; omega)
attribute [local irreducible] Still Adds AWL AW Drw DrwE EStep AC AWR Weak Frz Src RetK Out InK ItK AsK RdK
set_option maxHeartbeats 4000000 in
theorem srt2_ok (x y : En) (hx : x.r.length ≤ maxLen) (hy : y.r.length ≤ maxLen) : AC Tryz.prog 87 [.agg x.c, .agg y.c] (.c (.v (.int .i64 (cmpR x.r y.r)))) [] 0 := by
  have h2 := mF x.r y.r x.r.length y.r.length rfl rfl hx hy
  obtain ⟨xr, xn⟩ := x
  obtain ⟨yr, yn⟩ := y
  simp only [En.c] at *
  generalize cmpR xr yr = d at *
  refine aJ tabOk (sz := 10) Tryz.func87 rfl (by rw [Tryz.ntmps87]; rfl) ?_
  repeat' (first | ((with_reducible refine aB ?_); intro K hK hX) | ((with_reducible refine aC ?_); refine aD [0, 1, 2, 3, 4] rfl rfl ?_) | ((with_reducible refine aE ?_); (first | refine zA ?_ | refine zN ?_); (first | refine c0 h2 ?_)) | refine stA ?_ | ((first | refine hK _ _ _ _ ?_ | refine hX _ _ _ _ _ (by simp) ?_); clear hK hX K))
  refine aK zio ztr rfl (ResL.one (ResA.tmp rfl)) zou
theorem body_s2 : Body Tryz.prog 87 := by unfold Body; kernel_rfl
theorem sort_srch {p : List Po} {ws : List Wd} (ho : ∀ x ∈ p, rowP x.r) {N : Nat} (hN : (srchL p ws).length = N) (h0 : 0 < N) (hN2 : N ≤ 1000000) : ACS Tryz.prog 86 68 2 N (ec (srchL p ws)) [CV.v (.func (.func 87) #[] #[])] (ec (srchP p ws)) (.tup []) := by
  have hr : ∀ e ∈ srchL p ws, rowP e.r := fun e he => by
    unfold srchL at he
    obtain ⟨m, hm, rfl⟩ := List.mem_map.1 he
    exact qU rowP ho m (List.mem_filter.1 hm).1
  refine acs_sortF (X := En) (encX := En.c) (cmp := fun x y => cmpR x.r y.r) (fun e => e.r.length ≤ maxLen) (sortF_E 87 body_s2) hN h0 (by omega) (by decide) (fun _ => rfl) (fun x y hx hy => srt2_ok x y hx hy) (fun e he => by have := (hr e he).1; simp only [maxLen]; omega) swo_R (fO p ws) ?_ ?_
  · refine (List.pairwise_mergeSort leE_tr leE_tot (srchL p ws)).imp fun {a b} h => ?_
    have h := of_decide_eq_true h
    have := gc_R.anti a.r b.r
    show ¬ cmpR b.r a.r < 0
    omega
  · intro x hx y hy h1 h2
    have := gc_R.anti x.r y.r
    have hrr : x.r = y.r := fB (hr x hx).2 (hr y hy).2 (by omega)
    have hnd := xB p ws
    obtain ⟨i, hi⟩ := List.mem_iff_getElem?.1 hx
    obtain ⟨j, hj⟩ := List.mem_iff_getElem?.1 hy
    obtain ⟨i1, i2⟩ := List.getElem?_eq_some_iff.1 hi
    obtain ⟨j1, j2⟩ := List.getElem?_eq_some_iff.1 hj
    rw [List.nodup_iff_pairwise_ne, List.pairwise_iff_getElem] at hnd
    rcases Nat.lt_trichotomy i j with h | h | h
    · exact absurd (by rw [List.getElem_map, List.getElem_map, i2, j2, hrr]) (hnd i j (by simpa using i1) (by simpa using j1) h)
    · subst h
      rw [← i2, ← j2]
    · exact absurd (by rw [List.getElem_map, List.getElem_map, i2, j2, hrr]) (hnd j i (by simpa using j1) (by simpa using i1) h)
end Go.Proofs.YtccnhpaldmjkbaaGreat
