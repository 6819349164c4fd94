/- Structs compared, whose fields are strings, integers and bools. No condition. -/
import Derived.Test.YtekbcbjimajnfaaGreatDoorStrs
import Derived.Laws.StructEq
namespace Go.Eng
set_option linter.unusedSimpArgs false
set_option linter.unusedVariables false
set_option linter.unusedSectionVars false
open Go.RowKit
section
variable {P : Program} {t : TypeId} {x y : Operand}
/-- two lists, element by element -/
def eqLB {α : Type} (e : α → α → Bool) : List α → List α → Bool
  | [], [] => true
  | a :: r, b :: s => e a b && eqLB e r s
  | _, _ => false
theorem eqLB_iff {α : Type} {e : α → α → Bool} (h : ∀ a b, e a b = true ↔ a = b) : ∀ l m : List α, eqLB e l m = true ↔ l = m
  | [], [] => by simp [eqLB]
  | a :: r, b :: s => by simp [eqLB, h, eqLB_iff h r s]
  | [], _ :: _ => by simp [eqLB]
  | _ :: _, [] => by simp [eqLB]
theorem eqLB_len {α : Type} {e : α → α → Bool} : ∀ l m : List α, l.length ≠ m.length → eqLB e l m = false
  | [], [], h => absurd rfl h
  | a :: r, b :: s, h => by simp only [eqLB]; rw [eqLB_len r s (by simpa using h), Bool.and_false]
  | [], _ :: _, _ => rfl
  | _ :: _, [], _ => rfl
end
end Go.Eng
