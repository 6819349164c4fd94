/- Local arrays whose elements have one cell: an element's address, a slice of its end, its bytes as a string. Conditions: those of each rule. -/
import Derived.Test.YtekbcbjimajnfaaGreatDoorOpsB
namespace Go.Eng
open Go.RowKit
set_option linter.unusedSimpArgs false
set_option linter.unusedVariables false
section
variable {P : Program} {w0 : World} {F : FL} {L : HL} {o : Oper} {g gx gy : Bool} {t : TypeId} {x y : Operand} {k : IntKind} {v : Value}
end
end Go.Eng
