/- clear of the tail of a row of ours: the row is then its head. A sub-slice of such a row, and its elements. Conditions: those of each theorem. -/
import Derived.Test.YtgbldojgbpgjbaaGreatDoorSwp
namespace Go.Eng
set_option linter.unusedSimpArgs false
set_option linter.unusedVariables false
open Go.RowKit
section
variable {P : Program} {w0 : World} {n : Nat} {ops : Array Oper} {l : List Oper} {F : FL} {L : HL} {Q : Exit → Act → World → Prop} {o : Oper} {g : Bool} {v : Value} {x y z : Operand} {t t' : TypeId} {gx gy : Bool}
theorem slice0 {A : Option Addr} {c s : Nat} : (if c = 0 then A else A.map (·.add (0 * s))) = A := by
  split
  · rfl
  · cases A <;> simp [Addr.add]
end
end Go.Eng
