/- A read of what lies in memory now: the rules for what stood at the call's begin serve with this world as begin. No condition. -/
import Derived.Test.YtfcedlfeinnhoaaGreatDoorPerm
namespace Go.Eng
open Go.RowKit
section
variable {P : Program} {w0 : World} {F : FL} {L : HL} {o : Oper} {g : Bool} {v : Value}
end
end Go.Eng
