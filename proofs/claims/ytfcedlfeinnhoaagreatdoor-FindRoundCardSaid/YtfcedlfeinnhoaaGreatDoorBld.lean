/- What a strings.Builder does inside: pointers compared and turned round, bytes appended, the string at the end. No condition. -/
import Derived.Test.YtfcedlfeinnhoaaGreatDoorLend
import Derived.Lib.Builder
import Derived.Lib.AppendStr
import Derived.Lib.UnsafeStr
import Derived.Laws.Externs
import Derived.StillTail
namespace Go.Eng
set_option linter.unusedSimpArgs false
set_option linter.unusedVariables false
set_option linter.unusedSectionVars false
open Go.RowKit
section
variable {P : Program} {w0 : World} {n : Nat} {ops : Array Oper} {l : List Oper} {F : FL} {L : HL} {Q : Exit → Act → World → Prop} {o : Oper} {g : Bool} {v : Value} {x y z : Operand} {t t' : TypeId} {gx gy : Bool}
theorem y_nilCheck {a0 : Addr} (ho : o.op = .nilCheck x) (hx : F.ev x = some (gx, .pointer (some a0))) (hi : g = true → gx = true := by first | exact (fun _ => rfl) | exact (fun h => h) | exact (fun h => (Bool.and_eq_true_iff.1 h).1) | simp_all) : Y P w0 F L g o (.pointer (some a0)) :=
  Y_of fun n a hF hg w _ => by simp only [execOp, ho, hF.eval_on hx hg hi]; rfl
/-! ### A region that draws its order, with a tail in order that writes -/
theorem z_nilCheck {a0 : Addr} (ho : o.op = .nilCheck x) (hx : F.ev x = some (true, .pointer (some a0))) : ∀ n a, Fr n F a → ∀ w, Mem w0 L w → (execOp a.eval o).run P w = .ok (.value (.pointer (some a0))) w := fun n a hF w _ => by
  simp only [execOp, ho, hF.eval_on hx (g := true) rfl (fun _ => rfl)]; rfl
theorem z_len {A : Option Addr} {q c : Nat} {e : TypeId} (ho : o.op = .call { callee := .builtin .len, args := #[x], argTypes := #[t] }) (hx : F.ev x = some (true, .slice A q c)) (ht : P.underlying t = some (.slice e)) :
    ∀ n a, Fr n F a → ∀ w, Mem w0 L w → (execOp a.eval o).run P w = .ok (.value (.int .i64 q)) w := fun n a hF w _ => by
  simp only [execOp, ho, resolve, invoke, builtin, List.map_toArray, List.map_cons, List.map_nil, hF.eval_on hx (g := true) rfl (fun _ => rfl)]
  have h : ∀ ty, (Builtin.len_ #[t] ty #[.slice A q c]).run P w = .ok (.int .i64 q) w := fun ty => by simp [Builtin.len_, run_underlying ht, goInt]
  simp only [Sem.run_bind, Sem.run_pure, Result.andThen_ok, h]
end
end Go.Eng
