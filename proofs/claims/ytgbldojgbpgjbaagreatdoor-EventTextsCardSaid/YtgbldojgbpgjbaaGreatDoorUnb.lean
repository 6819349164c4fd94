/- A row of the many taken back to be turned, and the many said anew. No condition. -/
import Derived.Test.YtgbldojgbpgjbaaGreatDoorMany
import Derived.Test.YtgbldojgbpgjbaaGreatDoorMapR
namespace Go.Eng
open Go.RowKit
set_option linter.unusedVariables false
section
variable {P : Program} {w0 w : World} {n : Nat} {ops : Array Oper} {l : List Oper} {c : Code} {F : FL} {L : HL} {Q : Exit → Act → World → Prop} {rs rs' : List Row} {m i : Nat} {t : TypeId} {s q : Nat} {v : Value} {xs : List Value}
theorem S_known {p : Prop} (hp : ∀ w, Mem w0 L w → p) (h : p → S P w0 n ops l F L Q) : S P w0 n ops l F L Q := fun a w hF hM => h (hp w hM) a w hF hM
end
section
variable {P : Program} {w0 : World} {n : Nat} {ops : Array Oper} {l : List Oper} {F : FL} {L : HL} {Q : Exit → Act → World → Prop} {o : Oper} {x : Operand} {t : TypeId} {α : Type}
end
end Go.Eng
