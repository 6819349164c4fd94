/- The range over a map that no round writes: the iterator as an item, its entries in whatever order. No condition. -/
import Derived.Test.YtgbldojgbpgjbaaGreatDoorApp
import Derived.Maps.RangeRun
import Derived.Laws.Cover1
namespace Go.Eng
set_option linter.unusedSimpArgs false
set_option linter.unusedVariables false
set_option linter.unusedSectionVars false
open Go.RowKit
section
variable {P : Program} {w0 : World} {n : Nat} {ops : Array Oper} {l : List Oper} {F : FL} {L : HL} {Q : Exit → Act → World → Prop} {o : Oper} {g : Bool} {v : Value} {x y z : Operand} {t t' : TypeId} {gx gy : Bool}
variable {α : Type} [DecidableEq α]
end
end Go.Eng
