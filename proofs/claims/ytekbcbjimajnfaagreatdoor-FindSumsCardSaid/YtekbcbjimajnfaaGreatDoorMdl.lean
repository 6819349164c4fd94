/- An entry is deleted from a map. No condition. -/
import Derived.Test.YtekbcbjimajnfaaGreatDoorMapR
import Derived.Test.YtekbcbjimajnfaaGreatDoorClr
namespace Go.Eng
set_option linter.unusedSimpArgs false
set_option linter.unusedVariables false
set_option linter.unusedSectionVars false
open Go.RowKit
section
variable {P : Program} {w0 : World} {n : Nat} {ops : Array Oper} {l : List Oper} {F : FL} {L : HL} {Q : Exit → Act → World → Prop} {o : Oper} {g : Bool} {v : Value} {x y z : Operand} {t t' : TypeId} {gx gy : Bool}
variable {α : Type} [DecidableEq α]
end
end Go.Eng
