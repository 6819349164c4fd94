/- A read of what lies in memory now: the rules for what stood at the call's begin serve with this world as begin. No condition. -/
import Derived.Test.YtgbldojgbpgjbaaGreatDoorPerm
namespace Go.Eng
open Go.RowKit
section
variable {P : Program} {w0 : World} {F : FL} {L : HL} {o : Oper} {g : Bool} {v : Value}
theorem y_here (hp : plainOp o.op = true) (h : ∀ w1, Mem w0 L w1 → Y P w1 F [] g o v) : Y P w0 F L g o v :=
  Y_of fun n a hF hg w hM => ((h w hM).z hp) n a hF hg w (Mem.start w)
end
end Go.Eng
