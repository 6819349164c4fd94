/- An item gets another number. No condition. -/
import Derived.Test.YtgbldojgbpgjbaaGreatDoorMany
namespace Go.Eng
set_option linter.unusedSimpArgs false
set_option linter.unusedVariables false
open Go.RowKit
section
variable {P : Program} {w0 w : World} {n : Nat} {ops : Array Oper} {l : List Oper} {c : Code} {F : FL} {L : HL} {Q : Exit → Act → World → Prop} {i j : Nat} {p : It}
end
end Go.Eng
