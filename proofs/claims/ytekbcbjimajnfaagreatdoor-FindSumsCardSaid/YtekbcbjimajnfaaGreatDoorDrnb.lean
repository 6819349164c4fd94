/- No step of a goroutine lessens the count of draws. No condition. -/
import Derived.Test.YtekbcbjimajnfaaGreatDoorDrna
namespace Go.Drn
set_option linter.unusedSimpArgs false
set_option linter.unusedVariables false
open Go.RowKit
section
variable {P : Program}
theorem runT_ge {α : Type} (P : Program) (m : Sem α) (w : World) (es : Array Event) : w.drawn ≤ (rw (m.runT P w es).1).drawn := by
  rw [Sem.runT_eq]; exact run_ge P m w
theorem endThrow_ge {w0 : World} (fr : Frame) (m : String) (w : World) (h : w0.drawn ≤ w.drawn) : w0.drawn ≤ (gw (endThrow fr m w)).drawn := h
theorem endPrinting_ge {w0 : World} (fr : Frame) (v : Value) (w : World) (h : w0.drawn ≤ w.drawn) : w0.drawn ≤ (gw (endPrinting P fr v w)).drawn := by
  unfold endPrinting
  simp only []
  repeat' first
    | exact h
    | split
theorem endWith_ge (w : World) (fd : Nat) (t : ByteArray) (o : Outcome) : w.drawn ≤ (gw (endWith w fd t o)).drawn := by
  have h := sys_ge w (.write fd t)
  unfold endWith
  simp only []
  revert h
  generalize w.sys (.write fd t) = r
  intro h
  repeat' first
    | exact h
    | split
theorem endFatal_ge {w0 : World} (fr : Frame) (cs : List Frame) (dy : Option Dying) (m : String) (w : World) (h0 : w0.drawn ≤ w.drawn) : w0.drawn ≤ (gw (endFatal P fr cs dy m w)).drawn := by
  refine Nat.le_trans h0 ?_
  unfold endFatal
  simp only []
  generalize hr : Sem.run P _ w = r
  have h : w.drawn ≤ (rw r).drawn := hr ▸ run_ge P _ w
  clear hr
  cases r with
  | ok a w1 => exact h
  | halt h1 w1 => cases h1 <;> exact h
theorem writeOn_ge (fr : Frame) (d : Dying) (f : Fatal) (w : World) : w.drawn ≤ (gw (writeOn P fr d f w)).drawn := by
  unfold writeOn
  simp only []
  split
  · exact Nat.le_refl _
  · generalize hr : Sem.runT P _ w _ = r
    have h : w.drawn ≤ (rw r.1).drawn := hr ▸ runT_ge P _ w _
    clear hr
    obtain ⟨r, es⟩ := r
    cases r with
    | ok a w1 => exact h
    | halt h1 w1 => cases h1 <;> exact h
theorem doReturn_ge {w0 : World} (b : Bool) (fr : Frame) (cs : List Frame) (dy : Option Dying) (v : Value) (w : World) (h : w0.drawn ≤ w.drawn) : w0.drawn ≤ (gw (doReturn P b fr cs dy v w)).drawn := by
  unfold doReturn
  simp only []
  repeat' first
    | split
    | exact h
theorem die_ge (fr : Frame) (d : Dying) (w : World) : w.drawn ≤ (gw (die P fr d w)).drawn := by
  unfold die
  simp only []
  split
  · exact writeOn_ge _ _ _ _
  split
  · split
    · exact Nat.le_refl _
    · exact endWith_ge _ _ _ _
  split
  · exact Nat.le_refl _
  · generalize hr : Sem.run P _ w = r
    have h : w.drawn ≤ (rw r).drawn := hr ▸ run_ge P _ w
    clear hr
    cases r with
    | ok a w1 => exact h
    | halt h1 w1 => exact h
  · generalize hr : Sem.runT P _ w _ = r
    have h : w.drawn ≤ (rw r.1).drawn := hr ▸ runT_ge P _ w _
    clear hr
    obtain ⟨r, es⟩ := r
    rw [gw_after]
    dsimp only at h ⊢
    repeat' first
      | split
      | exact endPrinting_ge _ _ _ h
      | exact h
      | exact Nat.le_refl _
  · exact Nat.le_refl _
theorem callDeferred_ge (fr : Frame) (cs : List Frame) (dy : Option Dying) (d : Deferred) (w : World) : w.drawn ≤ (gw (callDeferred P fr cs dy d w)).drawn := by
  unfold callDeferred
  generalize hr : Sem.runT P _ w _ = r
  have h : w.drawn ≤ (rw r.1).drawn := hr ▸ runT_ge P _ w _
  clear hr
  obtain ⟨r, es⟩ := r
  simp only []
  generalize (d.target matches .nil && fr.mode matches .panicking _) = c
  split
  · exact Nat.le_refl _
  rw [gw_after]
  skip
  split <;> first
    | exact h
    | exact endFatal_ge _ _ _ _ _ h
    | (split <;> exact h)
theorem unwind_ge (b : Bool) (fr : Frame) (cs : List Frame) (dy : Option Dying) (w : World) : w.drawn ≤ (gw (unwind P b fr cs dy w)).drawn := by
  unfold unwind
  simp only []
  split
  · generalize hr : Sem.runT P _ w _ = r
    have h : w.drawn ≤ (rw r.1).drawn := hr ▸ runT_ge P _ w _
    clear hr
    obtain ⟨r, es⟩ := r
    simp only []
    rw [gw_after]
    split <;> exact h
  · exact callDeferred_ge _ _ _ _ _
  · split
    · exact Nat.le_refl _
    · split
      · exact Nat.le_refl _
      split
      · exact Nat.le_refl _
      split
      · split
        · exact Nat.le_refl _
        generalize hr : Sem.run P _ w = r
        have h : w.drawn ≤ (rw r).drawn := hr ▸ run_ge P _ w
        clear hr
        split <;> exact h
      · split
        · exact endPrinting_ge _ _ _ (Nat.le_refl _)
        · exact Nat.le_refl _
    · split
      · exact doReturn_ge _ _ _ _ _ _ (Nat.le_refl _)
      · generalize hr : Sem.runT P _ w _ = r
        have h : w.drawn ≤ (rw r.1).drawn := hr ▸ runT_ge P _ w _
        clear hr
        obtain ⟨r, es⟩ := r
        simp only []
        rw [gw_after]
        split
        · exact doReturn_ge _ _ _ _ _ _ h
        · exact h
        · exact h
theorem early_ge {w0 : World} (fr : Frame) (cs : List Frame) (dy : Option Dying) (g : Nat) (w : World) (h0 : w0.drawn ≤ w.drawn) : w0.drawn ≤ (gw (early P fr cs dy g w)).drawn := by
  have hn : ∀ w1 : World, w0.drawn ≤ w1.drawn → w0.drawn ≤ (gw (match w1.heap[g]? with
    | some (.pending c elem) => GStep.go { frame := fr, callers := cs, status := .running, dying := dy } { w1 with heap := w1.heap.setIfInBounds g (.cells c elem) }
    | _ => .ended (.stuck "early: the variable does not wait" (fr.pos P)) w1)).drawn := by
    intro w1 h1
    split <;> exact h1
  unfold early
  simp only []
  split
  · exact hn _ h0
  split
  · exact h0
  split
  · exact hn _ h0
  split
  · exact hn _ h0
  split
  · exact h0
  · exact h0
  · exact h0
  · exact hn _ h0
  · split
    · exact h0
    split
    · exact hn _ h0
    generalize hr : Sem.run P _ w = r
    have h : w.drawn ≤ (rw r).drawn := hr ▸ run_ge P _ w
    clear hr
    split
    · exact hn _ (Nat.le_trans h0 h)
    · exact Nat.le_trans h0 h
    · exact Nat.le_trans h0 h
theorem apply_ge {w0 : World} (fr : Frame) (cs : List Frame) (dy : Option Dying) (s : Sem Next) (l : Bool) (w : World) (h0 : w0.drawn ≤ w.drawn) : w0.drawn ≤ (gw (stepG.apply P l fr cs dy s w)).drawn := by
  refine Nat.le_trans h0 ?_
  unfold stepG.apply
  have h : w.drawn ≤ (rw (if l = true then s.runT P w #[] else (s.run P w, #[])).1).drawn := by
    split
    · exact runT_ge _ _ _ _
    · exact run_ge _ _ _
  revert h
  generalize (if l = true then s.runT P w #[] else (s.run P w, #[])) = r
  intro h
  obtain ⟨r, es⟩ := r
  simp only []
  rw [gw_after]
  skip
  simp only [] at h
  split <;> first
    | exact h
    | exact endFatal_ge _ _ _ _ _ h
    | exact early_ge _ _ _ _ _ h
    | (repeat' first
        | split
        | exact h
        | exact endThrow_ge _ _ _ h)
end
end Go.Drn
