/- A call through an interface whose dynamic type is known; copy into the middle of a row of ours of one-cell elements; make with a length of nought. Conditions: those of each rule. -/
import Derived.Test.YtgbldojgbpgjbaaGreatDoorCopy
namespace Go.Eng
open Go.RowKit
set_option linter.unusedSimpArgs false
set_option linter.unusedVariables false
section
variable {P : Program} {w0 : World} {F : FL} {L : HL} {n : Nat} {ops : Array Oper} {l : List Oper} {Q : Exit → Act → World → Prop} {o : Oper} {g gx : Bool} {t t' : TypeId} {x y : Operand} {v : Value}
theorem y_makeIfaceN {k : IntKind} (ho : o.op = .makeInterface t x) (hx : F.ev x = some (gx, v)) (ht : P.underlying t = some (.int k))
    (hi : g = true → gx = true := by first | exact (fun _ => rfl) | exact (fun h => h) | exact (fun h => (Bool.and_eq_true_iff.1 h).1) | simp_all) : Y P w0 F L g o (.iface t v) :=
  Y_of fun n a hF hg w hM => by
    simp only [execOp, ho, hF.eval_on hx hg hi, Instr.makeInterface, Sem.run_bind, run_underlying ht]; rfl
end
end Go.Eng
