/- A builder's row, its head frozen (its string was handed out): it is written behind what is frozen, within its capacity. No condition. -/
import Derived.Test.YtekbcbjimajnfaaGreatDoorBld
import Derived.Lib.FrozenHead
namespace Go.Eng
set_option linter.unusedSimpArgs false
set_option linter.unusedVariables false
set_option linter.unusedSectionVars false
open Go.RowKit
section
variable {P : Program} {w0 : World} {n : Nat} {ops : Array Oper} {l : List Oper} {F : FL} {L : HL} {Q : Exit → Act → World → Prop} {o : Oper} {g : Bool} {v : Value} {x y z : Operand} {t t' : TypeId} {gx gy : Bool}
end
end Go.Eng
