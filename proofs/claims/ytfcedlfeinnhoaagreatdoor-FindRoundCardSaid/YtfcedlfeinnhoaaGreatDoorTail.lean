/- A region that draws its order: quiet operations (calls among them) in whatever order, and behind them a tail whose operations wait for one another and may write. No condition. -/
import Derived.Test.YtfcedlfeinnhoaaGreatDoorBld
import Derived.StillTail
namespace Go.Eng
set_option linter.unusedSimpArgs false
set_option linter.unusedVariables false
set_option linter.unusedSectionVars false
open Go.RowKit
section
variable {P : Program} {ops : Array Oper} {md : Region.Mode} {C : World → Prop}
theorem not_on {s : Array Bool} {i : Nat} {o : Oper} (hu : s.getD i true = false) (hall : ∀ e ∈ o.after, Region.binds md e = true → s.getD e.on false = true) : ∀ e ∈ o.after, Region.binds md e = true → e.on ≠ i := fun e he hb h => by
  have := hall e he hb
  rw [h, getD_both hu] at this
  cases this
end
section
variable {P : Program} {w0 : World} {n : Nat} {ops : Array Oper} {l : List Oper} {F : FL} {L : HL} {Q : Exit → Act → World → Prop}
end
end Go.Eng
