/- Lengths under a guard, in regions that draw their order. No condition. -/
import Derived.Test.YtfmbgaaonfgenaaGreatDoorPerm
namespace Go.Eng
open Go.RowKit
section
variable {P : Program} {w0 : World} {F : FL} {L : HL} {o : Oper} {g gx : Bool} {x : Operand} {t : TypeId}
theorem zg_len {A : Option Addr} {q c : Nat} {e : TypeId} (ho : o.op = .call { callee := .builtin .len, args := #[x], argTypes := #[t] }) (hx : F.ev x = some (gx, .slice A q c)) (ht : P.underlying t = some (.slice e)) (hi : g = true → gx = true := by first | exact (fun _ => rfl) | exact (fun h => h) | exact (fun h => (Bool.and_eq_true_iff.1 h).1) | simp_all) :
    Z P w0 F L g o (.int .i64 q) := fun n a hF hg w _ => by
  simp only [execOp, ho, resolve, invoke, builtin, List.map_toArray, List.map_cons, List.map_nil, hF.eval_on hx hg hi]
  have h : ∀ ty, (Builtin.len_ #[t] ty #[.slice A q c]).run P w = .ok (.int .i64 q) w := fun ty => by simp [Builtin.len_, run_underlying ht, goInt]
  simp only [Sem.run_bind, Sem.run_pure, Result.andThen_ok, h]
theorem zg_len_str {s : List UInt8} (ho : o.op = .call { callee := .builtin .len, args := #[x], argTypes := #[t] }) (hx : F.ev x = some (gx, str s)) (ht : P.underlying t = some .string) (hi : g = true → gx = true := by first | exact (fun _ => rfl) | exact (fun h => h) | exact (fun h => (Bool.and_eq_true_iff.1 h).1) | simp_all) :
    Z P w0 F L g o (.int .i64 s.length) := fun n a hF hg w _ => by
  simp only [execOp, ho, resolve, invoke, builtin, List.map_toArray, List.map_cons, List.map_nil, hF.eval_on hx hg hi]
  have h : ∀ ty, (Builtin.len_ #[t] ty #[str s]).run P w = .ok (.int .i64 s.length) w := fun ty => by rw [run_len_string w t ty _ ht, str_size]; rfl
  simp only [Sem.run_bind, Sem.run_pure, Result.andThen_ok, h]
end
end Go.Eng
