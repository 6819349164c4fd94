/- Local arrays whose elements have one cell: an element's address, a slice of its end, its bytes as a string. Conditions: those of each rule. -/
import Derived.Test.YtfcedlfeinnhoaaGreatDoorOpsB
namespace Go.Eng
open Go.RowKit
set_option linter.unusedSimpArgs false
set_option linter.unusedVariables false
section
variable {P : Program} {w0 : World} {F : FL} {L : HL} {o : Oper} {g gx gy : Bool} {t : TypeId} {x y : Operand} {k : IntKind} {v : Value}
theorem y_indexArr {b j N : Nat} {e : TypeId} (ho : o.op = .indexAddr t x y) (hx : F.ev x = some (gx, .pointer (some ⟨b, 0, none⟩))) (hy : F.ev y = some (gy, .int k (j : Int))) (ht : P.underlying t = some (.array N e)) (hN : 2 ≤ N) (hz : (P.info? e).map (·.size) = some 1) (hj : g = true → j < N)
    (hi : g = true → gx = true := by first | exact (fun _ => rfl) | exact (fun h => h) | exact (fun h => (Bool.and_eq_true_iff.1 h).1) | simp_all) (hi' : g = true → gy = true := by first | exact (fun _ => rfl) | exact (fun h => h) | exact (fun h => (Bool.and_eq_true_iff.1 h).1) | simp_all) : Y P w0 F L g o (.pointer (some ⟨b, j, none⟩)) :=
  Y_of fun n a hF hg w _ => by
    have h1 := hj hg
    cases hq : P.info? e with
    | none => simp [hq] at hz
    | some i =>
      simp only [hq, Option.map_some, Option.some.injEq] at hz
      have h2 : 0 ≤ (j : Int) ∧ (j : Int) < (N : Int) := ⟨by omega, by omega⟩
      have h3 : decide (N ≤ 1) = false := by simp; omega
      simp [execOp, ho, hF.eval_on hx hg hi, hF.eval_on hy hg hi', Instr.indexAt, Instr.sureAddr, asIntOf, run_underlying ht, h2, h3, sizeOf, typeInfo, hq, hz, add_zero_off]
      intro h; omega
end
end Go.Eng
