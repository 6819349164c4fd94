/- Two nil interface values compared, one of them the literal nil; an operation whose guard does not hold is left out. No condition. -/
import Derived.Test.YtfcedlfeinnhoaaGreatDoorMany
import Derived.Test.YtfcedlfeinnhoaaGreatDoorGrd
namespace Go.Eng
set_option linter.unusedSimpArgs false
set_option linter.unusedVariables false
open Go.RowKit
section
variable {P : Program} {x : Operand} {t : TypeId}
theorem run_equalIn_ni (k : Nat) {ms : Array (String × TypeId)} (ht : P.underlying t = some (.interface ms)) (w : World) : (Op.equalIn (k + 1) t .nilIface .nilIface).run P w = .ok true w := by
  simp [Op.equalIn, run_underlying ht]
theorem eqGuard_ni {op : BinOp} {v : Value} : eqGuard op t x (.const v) .nilIface .nilIface = pure () := by
  cases op <;> cases x <;> rfl
theorem b_neqII {ms : Array (String × TypeId)} {v : Value} (ht : P.underlying t = some (.interface ms)) : ∀ w, (do eqGuard .neq t x (.const v) .nilIface .nilIface; binOp .neq t .nilIface .nilIface : Sem Value).run P w = .ok (.bool false) w := fun w => by
  simp only [eqGuard_ni, binOp, Op.equal, Op.maxDepth]
  simp [run_equalIn_ni 9999 ht]
end
section
variable {P : Program} {w0 : World} {n : Nat} {ops : Array Oper} {l : List Oper} {F : FL} {L : HL} {Q : Exit → Act → World → Prop} {o : Oper} {g : Bool} {v : Value} {x y c : Operand} {gc gx : Bool}
end
end Go.Eng
