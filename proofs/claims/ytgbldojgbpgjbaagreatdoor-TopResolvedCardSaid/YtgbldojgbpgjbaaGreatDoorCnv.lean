/- An owned row as a box whose cells are all known, and back: for callees that write one cell behind a pointer. No condition. -/
import Derived.Test.YtgbldojgbpgjbaaGreatDoorMany
import Derived.Test.YtgbldojgbpgjbaaGreatDoorStrs
namespace Go.Eng
open Go.RowKit
set_option linter.unusedVariables false
section
variable {P : Program} {w0 w : World} {n : Nat} {ops : Array Oper} {l : List Oper} {c : Code} {F : FL} {L : HL} {Q : Exit → Act → World → Prop} {i : Nat} {t : TypeId} {s q k g : Nat} {xs cur : List Value} {A : Option Addr}
end
/-! ### what a loop keeps, by lookup; what is shadowed does not count -/
end Go.Eng
