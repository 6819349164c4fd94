/- More operations: <= and >= of strings, exclusive or of unsigned numbers. No condition. -/
import Derived.Test.YtgbldojgbpgjbaaGreatDoorMapR
namespace Go.Eng
open Go.RowKit
set_option linter.unusedSimpArgs false
set_option linter.unusedVariables false
section
variable {P : Program} {t : TypeId} {x y : Operand}
theorem b_leqs {s s' : List UInt8} : ∀ w, (do eqGuard .leq t x y (str s) (str s'); binOp .leq t (str s) (str s') : Sem Value).run P w = .ok (.bool (Op.bytesLess s s' || decide (s = s'))) w := fun w => by
  have h : ∀ (a b : ByteArray), (do eqGuard .leq t x y (.string a) (.string b); binOp .leq t (.string a) (.string b) : Sem Value).run P w = .ok (.bool (Op.bytesLess a.toList b.toList || a.toList == b.toList)) w := fun a b => rfl
  rw [show str s = .string ⟨s.toArray⟩ from rfl, show str s' = .string ⟨s'.toArray⟩ from rfl, h, str_toList, str_toList, lbeq_dec]
theorem b_xor {k : IntKind} {m p : Int} : ∀ w, (do eqGuard .xor t x y (.int k m) (.int k p); binOp .xor t (.int k m) (.int k p) : Sem Value).run P w = .ok (.int k (bits .xor k m p)) w := fun w => by
  simp only [eqGuard_xor, binOp_xor, intBits_xor, Sem.run_bind, Sem.run_pure, Result.andThen_ok]
theorem b_and {k : IntKind} {m p : Int} : ∀ w, (do eqGuard .and t x y (.int k m) (.int k p); binOp .and t (.int k m) (.int k p) : Sem Value).run P w = .ok (.int k (bits .and k m p)) w := fun w => by
  simp only [eqGuard_and, binOp_and, intBits_and, Sem.run_bind, Sem.run_pure, Result.andThen_ok]
end
end Go.Eng
