/- A box that is no more written becomes a row of one element, so that it can be kept with the many; what is read of it then. No condition. -/
import Derived.Test.YtfcedlfeinnhoaaGreatDoorMany
namespace Go.Eng
open Go.RowKit
set_option linter.unusedVariables false
section
variable {P : Program} {w0 w : World} {n : Nat} {ops : Array Oper} {l : List Oper} {c : Code} {F : FL} {L : HL} {Q : Exit → Act → World → Prop} {i b : Nat} {cs : List Value} {t : TypeId}
end
end Go.Eng
