/- The end of a function with three results, of which the first is a variable's cells. No condition. -/
import Derived.Test.YtekbcbjimajnfaaGreatDoorStrs
namespace Go.Eng
open Go.RowKit
section
variable {P : Program} {w0 : World} {n : Nat} {F : FL} {L : HL}
variable {v : Value}
end
end Go.Eng
