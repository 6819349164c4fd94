/- Lengths under a guard, in regions that draw their order. No condition. -/
import Derived.Test.YtekbcbjimajnfaaGreatDoorPerm
namespace Go.Eng
open Go.RowKit
section
variable {P : Program} {w0 : World} {F : FL} {L : HL} {o : Oper} {g gx : Bool} {x : Operand} {t : TypeId}
end
end Go.Eng
