/- No run of a primitive text lessens the count of draws. No condition. -/
import Derived.StepT
import Derived.Calls
import Derived.Below
namespace Go.Drn
set_option linter.unusedSimpArgs false
set_option linter.unusedVariables false
open Go.RowKit
/-- The world of a result, of a goroutine's step. -/
abbrev rw {α : Type} : Result α → World
  | .ok _ w => w
  | .halt _ w => w
def gw : GStep → World
  | .go _ w _ => w
  | .comm _ _ _ _ w _ => w
  | .spawn _ _ w _ => w
  | .count _ w _ => w
  | .timer _ _ w _ => w
  | .alone _ _ w _ => w
  | .newcoro _ _ _ w _ => w
  | .coroswitch _ _ _ w _ => w
  | .collect _ w _ => w
  | .watch _ w _ => w
  | .ended _ w _ => w
theorem gw_after (es : Array Event) (s : GStep) : gw (GStep.after es s) = gw s := by cases s <;> rfl

theorem ask_ge {α : Type} : ∀ (k : Ask α) (w : World), w.drawn ≤ (w.ask k).2.drawn := by
  intro k
  induction k with
  | done a => intro w; exact Nat.le_refl _
  | ask what range k ih =>
    intro w
    simp only [World.ask]
    split
    · exact ih _ _
    · exact Nat.le_trans (Nat.le_succ _) (ih _ { w with drawn := w.drawn + 1 })
theorem sys_ge (w : World) (c : Sys) : w.drawn ≤ (w.sys c).2.drawn := by
  have h := ask_ge (Kernel.perform c w.os) w
  unfold World.sys
  split
  · exact Nat.le_refl _
  · next hs => rw [hs] at h; exact h
theorem freeze_eq (w : World) (a : Addr) (n : Nat) : (w.freeze a n).drawn = w.drawn := by
  unfold World.freeze
  split <;> rfl
theorem viewStore_eq {P : Program} {w w' : World} {p : Addr} {u : TypeId} {a : Addr} {v : Value} {b : Bool} {l : List Addr} (h : w.viewStore P p u a v b = .ok (w', l)) : w'.drawn = w.drawn := by
  unfold World.viewStore at h
  simp only [bind, Except.bind, pure, Except.pure, throw, throwThe, MonadExceptOf.throw] at h
  repeat' first
    | (simp at h; done)
    | (simp only [Except.ok.injEq, Prod.mk.injEq] at h; obtain ⟨rfl, _⟩ := h; rfl)
    | split at h
theorem farStore_eq {P : Program} {w w' : World} {a : Addr} {v : Value} {b : Bool} {l : List Addr} (h : w.farStore P a v b = .ok (w', l)) : w'.drawn = w.drawn := by
  unfold World.farStore at h
  split at h
  · split at h
    · next hv => simp only [Except.ok.injEq] at h; subst h; exact viewStore_eq hv
    · cases h
  · cases h

theorem run_ge {α : Type} (P : Program) : ∀ (m : Sem α) (w : World), w.drawn ≤ (rw (m.run P w)).drawn := by
  intro m
  induction m with
  | pure a => intro w; exact Nat.le_refl _
  | halt h0 => intro w; exact Nat.le_refl _
  | program k ih => intro w; exact ih _ _
  | mark m k ih => intro w; exact ih _
  | choose q k ih =>
    intro w
    simp only [Sem.run]
    split
    · exact ih _ _
    · exact Nat.le_trans (Nat.le_succ _) (ih _ { w with drawn := w.drawn + 1 })
  | new o k ih => intro w; exact ih _ { w with heap := w.heap.push o }
  | shape r k ih => intro w; exact ih _ _
  | frozen a k ih => intro w; exact ih _ _
  | freeze a n k ih => intro w; have h := ih (w.freeze a n); rw [freeze_eq] at h; exact h
  | getObj r k ih =>
    intro w
    simp only [Sem.run]
    split
    · exact Nat.le_refl _
    · exact ih _ _
    · exact Nat.le_refl _
  | setObj r o k ih =>
    intro w
    simp only [Sem.run]
    split
    · exact Nat.le_refl _
    · exact ih { w with heap := w.heap.setIfInBounds r o }
    · exact Nat.le_refl _
  | sys c k ih => intro w; exact Nat.le_trans (sys_ge w c) (ih _ _)
  | load m a k ih =>
    intro w
    simp only [Sem.run]
    split
    · exact ih _ _
    · split
      · exact ih _ _
      · exact Nat.le_refl _
  | store m a v k ih =>
    intro w
    have h1 : w.drawn ≤ (rw (k.run P (w.setCell a v))).drawn := ih (w.setCell a v)
    have h2 : ∀ w' l, w.farStore P a v (m == .atomic) = .ok (w', l) → w.drawn ≤ (rw (k.run P w')).drawn := fun w' l h => by
      have h3 := ih w'; rw [farStore_eq h] at h3; exact h3
    cases v <;> simp only [Sem.run] <;> repeat' first
      | exact Nat.le_refl _
      | exact h1
      | (next h => exact h2 _ _ h)
      | split
end Go.Drn
