/- No step of the machine lessens the count of draws; so a call that leaves the blocks that are there alone ends in the first world, drawn from and grown. No condition. -/
import Derived.Test.YtekbcbjimajnfaaGreatDoorDrnb
import Derived.Sort.Grow
import Derived.Deep.Draws
namespace Go.Drn
set_option linter.unusedSimpArgs false
set_option linter.unusedVariables false
open Go.RowKit Go.Sort
section
variable {P : Program}
theorem oper_ge (fr : Frame) (cs : List Frame) (dy : Option Dying) (l : Bool) (w : World) : w.drawn ≤ (gw (stepG.oper P l fr cs dy w)).drawn := by
  unfold stepG.oper
  split
  · exact Nat.le_refl _
  · split <;> exact apply_ge _ _ _ _ _ _ (Nat.le_refl _)
theorem elim_ge {α : Type} {w : World} (o : Option α) (d : GStep) (f : α → GStep) (hd : w.drawn ≤ (gw d).drawn) (hf : ∀ a, w.drawn ≤ (gw (f a)).drawn) : w.drawn ≤ (gw (o.elim d f)).drawn := by
  cases o
  · exact hd
  · exact hf _
theorem go_le {w : World} {g : Goroutine} {es : Array Event} : w.drawn ≤ (gw (.go g w es)).drawn := Nat.le_refl _
theorem ended_le {w : World} {o : Outcome} {es : Array Event} : w.drawn ≤ (gw (.ended o w es)).drawn := Nat.le_refl _
theorem of_runT {α : Type} {m : Sem α} {w : World} {es : Array Event} {r : Result α × Array Event} (h : m.runT P w es = r) : w.drawn ≤ (rw r.1).drawn := h ▸ runT_ge P m w es
theorem of_run {α : Type} {m : Sem α} {w : World} {r : Result α} (h : m.run P w = r) : w.drawn ≤ (rw r).drawn := h ▸ run_ge P m w
set_option maxHeartbeats 1000000 in
theorem exec_ge (b : Bool) (fr : Frame) (cs : List Frame) (dy : Option Dying) (l : Bool) (w : World) : w.drawn ≤ (gw (stepG.exec P b l fr cs dy w)).drawn := by
  have hl : ∀ (l : Nat) (jump : Option Code), w.drawn ≤ (gw (match Sem.runT P (Instr.endRound l jump) w #[] with
    | (r, es) => GStep.after (seen P fr.fn es) (match r with
      | .ok v w => doReturn P b fr cs dy v w
      | .halt _ w => .ended (.stuck "range over a function: no such loop" (fr.pos P)) w))).drawn := fun l jump => by
    have h := runT_ge P (Instr.endRound l jump) w #[]
    revert h
    generalize Sem.runT P (Instr.endRound l jump) w #[] = r
    intro h
    obtain ⟨r, es⟩ := r
    dsimp only at h ⊢
    rw [gw_after]
    split
    · exact doReturn_ge _ _ _ _ _ _ h
    · exact h
  have ha : ∀ (fr : Frame) (s : Sem Next), w.drawn ≤ (gw (stepG.apply P l fr cs dy s w)).drawn := fun fr s => apply_ge _ _ _ _ _ _ (Nat.le_refl _)
  unfold stepG.exec
  dsimp only at hl ⊢
  cases fr.roundOf with
  | none => 
    dsimp only
    split
    all_goals first
      | with_reducible exact go_le
      | with_reducible exact ended_le
      | with_reducible exact ha _ _
      | with_reducible exact oper_ge _ _ _ _ _
      | (with_reducible refine elim_ge _ _ _ ?_ (fun _ => ?_) <;> first | with_reducible exact go_le | with_reducible exact ended_le | with_reducible exact ha _ _ | exact hl _ _)
      | (generalize hr : Sem.runT P (Instr.endRound _ _) w _ = r
         exact hr ▸ hl _ _)
      | (generalize hr : Sem.runT P _ w _ = r
         have h := of_runT hr
         obtain ⟨r, es⟩ := r
         dsimp only at h ⊢
         rw [gw_after]
         split <;> first | with_reducible exact h | with_reducible exact apply_ge _ _ _ _ _ _ h | exact h)
      | (split <;> first
         | with_reducible exact go_le
         | with_reducible exact ended_le
         | with_reducible exact oper_ge _ _ _ _ _
         | with_reducible exact ha _ _
         | (with_reducible refine elim_ge _ _ _ ?_ (fun _ => ?_) <;> first | with_reducible exact go_le | with_reducible exact ended_le | with_reducible exact ha _ _ | exact hl _ _)
         | (generalize hr : Sem.run P _ w = r
            have h := of_run hr
            split <;> exact h))
  | some l2 =>
    dsimp only
    split
    case h_13 =>
      refine elim_ge _ _ _ ?_ (fun _ => ?_)
      · exact hl _ _
      · with_reducible exact go_le
    case h_14 =>
      refine elim_ge _ _ _ ?_ (fun _ => ?_)
      · exact hl _ _
      · with_reducible exact go_le
    all_goals first
      | with_reducible exact go_le
      | with_reducible exact ended_le
      | with_reducible exact ha _ _
      | with_reducible exact oper_ge _ _ _ _ _
      | (with_reducible refine elim_ge _ _ _ ?_ (fun _ => ?_) <;> first | with_reducible exact go_le | with_reducible exact ended_le | with_reducible exact ha _ _ | exact hl _ _)
      | (generalize hr : Sem.runT P (Instr.endRound _ _) w _ = r
         exact hr ▸ hl _ _)
      | (generalize hr : Sem.runT P _ w _ = r
         have h := of_runT hr
         obtain ⟨r, es⟩ := r
         dsimp only at h ⊢
         rw [gw_after]
         split <;> first | with_reducible exact h | with_reducible exact apply_ge _ _ _ _ _ _ h | exact h)
      | (split <;> first
         | with_reducible exact go_le
         | with_reducible exact ended_le
         | with_reducible exact oper_ge _ _ _ _ _
         | with_reducible exact ha _ _
         | (with_reducible refine elim_ge _ _ _ ?_ (fun _ => ?_) <;> first | with_reducible exact go_le | with_reducible exact ended_le | with_reducible exact ha _ _ | exact hl _ _)
         | (generalize hr : Sem.run P _ w = r
            have h := of_run hr
            split <;> exact h))
theorem stepG_ge (b : Bool) (g : Goroutine) (w : World) (l : Bool) : w.drawn ≤ (gw (stepG P b g w l)).drawn := by
  obtain ⟨fr, cs, st, dy, of⟩ := g
  unfold stepG
  dsimp only
  split
  · exact die_ge _ _ _
  · exact exec_ge _ _ _ _ _ _
  · exact unwind_ge _ _ _ _ _
/-! ### The machine's step -/
theorem waitingAt_eq {rest : Rest} {cs : Array CommCase} {w w' : World} (h : waitingAt rest cs w = some w') : w'.drawn = w.drawn := by
  unfold waitingAt at h
  repeat' first
    | (simp at h; done)
    | (simp only [Option.some.injEq] at h; subst h; rfl)
    | split at h
theorem comm_ge (rest : Rest) (gs : Array Goroutine) (i : Nat) (g : Goroutine) (cases : Array CommCase) (bl : Bool) (shape : CommShape) (w : World) (m' : Machine)
    (h : (communicate P rest gs i g cases bl shape w).1 = .next m') : w.drawn ≤ m'.world.drawn := by
  unfold communicate at h
  simp only [] at h
  repeat' first
    | (simp at h; done)
    | (simp only [Stepped.next.injEq] at h; subst h; first
        | exact Nat.le_refl _
        | (have h1 := waitingAt_eq ‹waitingAt _ _ _ = some _›; exact Nat.le_of_eq h1.symm)
        | exact of_run ‹Sem.run P _ w = _›
        | (have h2 := of_run ‹Sem.run P _ _ = _›; have h1 := of_run ‹Sem.run P _ w = _›; exact Nat.le_trans h1 h2))
    | split at h
theorem look_ge (gs : Array Goroutine) (rest : Rest) (w : World) (m' : Machine) (h : look P gs rest w = .next m') : w.drawn ≤ m'.world.drawn := by
  unfold look at h
  simp only [] at h
  repeat' first
    | (simp at h; done)
    | (simp only [Stepped.next.injEq] at h; subst h
       exact of_run ‹Sem.run P _ w = _›)
    | split at h
theorem drain_eq (w : World) (c : Nat) : (drain w c).2.drawn = w.drawn := by
  unfold drain
  split <;> rfl
theorem retime_eq (m : Machine) (k : Nat) (t : Timer) (a b : Nat) : (retime m k t a b).2.world.drawn = m.world.drawn := by
  unfold retime
  split
  next had world he =>
    split at he
    · next c _ => have := drain_eq m.world c; rw [he] at this; exact this
    · simp only [Prod.mk.injEq] at he; rw [← he.2]
theorem named_eq {m m0 m' : Machine} {var : Addr} {f : Nat → Timer → Value × Machine} {v : Value} (hf : ∀ k t, (f k t).2.world.drawn = m0.world.drawn) (h : timerOp.named m var f = .ok (v, m')) : m'.world.drawn = m0.world.drawn := by
  unfold timerOp.named at h
  split at h
  · next k _ =>
    simp only [Except.ok.injEq] at h
    have := hf k (m.rest.timers.getD k default)
    rw [h] at this; exact this
  · cases h
theorem opened_eq {m m' : Machine} {var : Addr} (h : timerOp.opened m var = some m') : m'.world.drawn = m.world.drawn := by
  unfold timerOp.opened at h
  repeat' first
    | (simp at h; done)
    | (simp only [Option.some.injEq] at h; subst h; rfl)
    | split at h
theorem timerOp_eq {m m' : Machine} {op : TimerOp} {v : Value} (h : timerOp m op = .ok (v, m')) : m'.world.drawn = m.world.drawn := by
  unfold timerOp at h
  dsimp only at h
  repeat' first
    | (simp at h; done)
    | exact named_eq (fun _ _ => retime_eq _ _ _ _ _) h
    | (have h1 := opened_eq ‹timerOp.opened _ _ = some _›; rw [← h1]; exact named_eq (fun _ _ => retime_eq _ _ _ _ _) h)
    | (simp only [Except.ok.injEq, Prod.mk.injEq] at h; obtain ⟨_, rfl⟩ := h; rfl)
    | split at h
theorem runTm_ge (m m' : Machine) (i : Nat) (b : Bool) (h : (runT P m i b).1 = .next m') : m.world.drawn ≤ m'.world.drawn := by
  simp only [runT] at h
  have hs : m.world.drawn ≤ (gw (stepG P (i == 0) (m.gs.swapAt! i { (default : Goroutine) with status := .finished }).1 m.world b)).drawn := stepG_ge _ _ _ _
  revert hs h
  generalize m.gs.swapAt! _ _ = gg
  generalize stepG P _ gg.1 m.world b = s
  intro h hs
  cases s <;> simp only [] at h
  all_goals first
    | (simp at h; done)
    | (have := comm_ge _ _ _ _ _ _ _ _ _ h; exact Nat.le_trans hs this)
    | (have := look_ge _ _ _ _ h; exact Nat.le_trans hs this)
    | (simp only [Stepped.next.injEq] at h; subst h; exact hs)
    | (repeat' first
        | (simp at h; done)
        | (simp only [Stepped.next.injEq] at h; subst h; first
            | exact hs
            | (have h1 := timerOp_eq ‹timerOp _ _ = _›; exact Nat.le_trans hs (Nat.le_of_eq h1.symm))
            | (have h1 : _ = GStep.go _ _ _ := ‹endThrow _ _ _ = GStep.go _ _ _›; cases h1; exact hs))
        | split at h)
theorem serve_ge (m m' : Machine) (k : Nat) (h : serve P m k = .next m') : m.world.drawn ≤ m'.world.drawn := by
  unfold serve at h
  simp only [] at h
  repeat' first
    | (simp at h; done)
    | (simp only [Stepped.next.injEq] at h; subst h; exact Nat.le_refl _)
    | split at h
theorem askOn_ge_m (m m' : Machine) (ops : Array MemOp) (h : askOn P m = .machine (.next m') ops) : m.world.drawn ≤ m'.world.drawn := by
  unfold askOn at h
  dsimp only at h
  repeat' first
    | (simp at h; done)
    | (simp only [Move.machine.injEq] at h
       have h1 := serve_ge _ _ _ h.1
       have h2 := of_run ‹Sem.run P _ m.world = _›
       exact Nat.le_trans h2 h1)
    | (simp only [Move.machine.injEq, Stepped.next.injEq] at h; obtain ⟨rfl, _⟩ := h; first
        | exact Nat.le_refl _
        | exact of_run ‹Sem.run P _ m.world = _›
        | (have h2 := of_run ‹Sem.run P _ _ = _›; have h1 := of_run ‹Sem.run P _ m.world = _›; exact Nat.le_trans h1 h2))
    | split at h
theorem askOn_ge_g (m m' : Machine) (i : Nat) (h : askOn P m = .goroutine m' i) : m.world.drawn ≤ m'.world.drawn := by
  unfold askOn at h
  dsimp only at h
  repeat' first
    | (simp at h; done)
    | (simp only [Move.goroutine.injEq] at h; obtain ⟨rfl, _⟩ := h
       have h1 := of_run ‹Sem.run P (choose (.sched _)) _ = _›
       have h0 := of_run ‹Sem.run P _ m.world = _›
       try have h2 := of_run ‹Sem.run P (choose (.extern "sched.slice" _)) _ = _›
       try have h3 := of_run ‹Sem.run P (choose (.extern "clock.wait" _)) _ = _›
       dsimp only [Machine.advanceTo, rw] at *
       omega)
    | split at h
theorem mask_ge (m : Machine) : (∀ m' ops, ask P m = .machine (.next m') ops → m.world.drawn ≤ m'.world.drawn) ∧ (∀ m' i, ask P m = .goroutine m' i → m.world.drawn ≤ m'.world.drawn) := by
  unfold ask
  by_cases hw : m.rest.watch = true
  · rw [if_pos hw]
    generalize hr : Sem.run P (choose (.extern "collector.look" 2)) m.world = r
    have h0 := of_run hr
    cases r with
    | halt h w => exact ⟨fun _ _ h => (by cases h), fun _ _ h => (by cases h)⟩
    | ok k world =>
      have h0 : m.world.drawn ≤ world.drawn := h0
      rcases k with _ | _ | k
      · exact ⟨fun m' ops h => Nat.le_trans h0 (askOn_ge_m { m with world } m' ops h), fun m' i h => Nat.le_trans h0 (askOn_ge_g { m with world } m' i h)⟩
      · show (∀ m' ops, (match look P m.gs m.rest world with | .next m => askOn P m | e => Move.machine e) = .machine (.next m') ops → _) ∧ (∀ m' i, (match look P m.gs m.rest world with | .next m => askOn P m | e => Move.machine e) = .goroutine m' i → _)
        cases hl : look P m.gs m.rest world with
        | next m₂ =>
          have h1 := Nat.le_trans h0 (look_ge _ _ _ _ hl)
          exact ⟨fun m' ops h => Nat.le_trans h1 (askOn_ge_m m₂ m' ops h), fun m' i h => Nat.le_trans h1 (askOn_ge_g m₂ m' i h)⟩
        | ended o w => exact ⟨fun _ _ h => (by cases h), fun _ _ h => (by cases h)⟩
      · exact ⟨fun m' ops h => Nat.le_trans h0 (askOn_ge_m { m with world } m' ops h), fun m' i h => Nat.le_trans h0 (askOn_ge_g { m with world } m' i h)⟩
  · simp only [hw, Bool.false_eq_true, if_false]
    exact ⟨fun m' ops h => askOn_ge_m m m' ops h, fun m' i h => askOn_ge_g m m' i h⟩
theorem move_ge_m (m m' : Machine) (ops : Array MemOp) (h : move P m = .machine (.next m') ops) : m.world.drawn ≤ m'.world.drawn := by
  unfold move at h
  repeat' first
    | (simp at h; done)
    | (have := (mask_ge _).1 m' ops h; exact this)
    | split at h
theorem move_ge_g (m m' : Machine) (i : Nat) (h : move P m = .goroutine m' i) : m.world.drawn ≤ m'.world.drawn := by
  unfold move at h
  repeat' first
    | (simp at h; done)
    | (have := (mask_ge _).2 m' i h; exact this)
    | (simp only [Move.goroutine.injEq] at h; obtain ⟨rfl, _⟩ := h; exact Nat.le_refl _)
    | split at h
theorem step_ge (m m' : Machine) (h : step P m = .next m') : m.world.drawn ≤ m'.world.drawn := by
  simp only [step, stepT] at h
  split at h
  next m₁ i hm => exact Nat.le_trans (move_ge_g m m₁ i hm) (runTm_ge m₁ m' i _ h)
  next s ops hm =>
    simp only [] at h
    subst h
    exact move_ge_m m m' ops hm
theorem runN_ge : ∀ (n : Nat) (m m' : Machine), runN P n m = .next m' → m.world.drawn ≤ m'.world.drawn
  | 0, m, m', h => by simp only [runN, Stepped.next.injEq] at h; rw [h]; exact Nat.le_refl _
  | n + 1, m, m', h => by
    simp only [runN] at h
    cases hs : step P m with
    | next m1 => rw [hs] at h; exact Nat.le_trans (step_ge m m1 hs) (runN_ge n m1 m' h)
    | ended o w => rw [hs] at h; cases h
theorem steps_ge {m m' : Machine} (h : Steps P m m') : m.world.drawn ≤ m'.world.drawn := by
  obtain ⟨n, h⟩ := h
  exact runN_ge n m m' h

/-! ### Calls -/
theorem calls_ge {f : FuncId} {args : Array Value} {w : World} {R : Ending → World → Prop} (h : Calls P f args w R) (hR : ∀ e w', R e w' → ∃ v, e = .returned v) :
    Calls P f args w fun e w' => R e w' ∧ w.drawn ≤ w'.drawn := by
  intro cs
  obtain ⟨e, w', fr, h1, h2, h3⟩ := h cs
  obtain ⟨v, rfl⟩ := hR e w' h1
  exact ⟨_, w', fr, ⟨h1, steps_ge h2⟩, h2, h3⟩
theorem grow_of_below {w w' : World} (h : Below w.heap.size w w') (hd : w.drawn ≤ w'.drawn) : ∃ q os', w' = grow (w.drewN q) os' := by
  refine ⟨w'.drawn - w.drawn, w'.heap.extract w.heap.size w'.heap.size, ?_⟩
  obtain ⟨h1, h2, h3, h4, h5⟩ := h
  obtain ⟨hp, tp, dr, os, ou⟩ := w'
  simp only [grow, World.drewN, World.mk.injEq]
  dsimp only at h1 h2 h3 h4 h5 hd
  refine ⟨?_, h2, by omega, h1, h3⟩
  apply Array.ext_getElem?
  intro k
  rw [Array.getElem?_append]
  split
  · next hk => exact h5 k hk
  · next hk =>
    rw [Array.getElem?_extract]
    have e : w.heap.size + (k - w.heap.size) = k := by omega
    rw [e]
    split
    · rfl
    · rw [Array.getElem?_eq_none (by omega)]
theorem calls_grow {f : FuncId} {args : Array Value} {w : World} {v : Value} (h : Calls P f args w fun e w' => e = .returned v ∧ Below w.heap.size w w') :
    Calls P f args w fun e w' => e = .returned v ∧ ∃ q os', w' = grow (w.drewN q) os' :=
  (calls_ge h (fun e w' h => ⟨v, h.1⟩)).mono fun e w' ⟨⟨h1, h2⟩, h3⟩ => ⟨h1, grow_of_below h2 h3⟩
end
end Go.Drn
