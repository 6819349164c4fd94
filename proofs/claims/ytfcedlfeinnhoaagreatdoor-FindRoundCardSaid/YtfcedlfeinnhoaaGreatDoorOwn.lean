/- Rows of ours whose elements have a type: a callee's new slice taken over, elements read and written. No condition. -/
import Derived.Test.YtfcedlfeinnhoaaGreatDoorMore
namespace Go.Eng
set_option linter.unusedSimpArgs false
set_option linter.unusedVariables false
set_option linter.unusedSectionVars false
open Go.RowKit
section
variable {P : Program} {w0 : World} {n : Nat} {ops : Array Oper} {l : List Oper} {F : FL} {L : HL} {Q : Exit → Act → World → Prop} {o : Oper} {g : Bool} {v : Value} {x y z : Operand} {t t' : TypeId} {gx gy : Bool}
variable {α : Type} {enc : α → List Value} {A : Option Addr} {q c j size : Nat} {ty e : TypeId} {xl : List α} {d : TypeDesc} {xe : α}
/-- An index whose number is a Nat where the operation is reached. -/
theorem y_indexOwnI (i : Nat) {m : Int} {e' : TypeId} {k : IntKind} {xs : List Value} (ho : o.op = .indexAddr t x y) (hx : F.ev x = some (gx, .slice A q c)) (hy : F.ev y = some (gy, .int k m)) (hm : g = true → m = (j : Int)) (hL : L.get i = some (.own e' size (.slice A q c) q xs))
    (ht : P.underlying t = some (.slice e)) (hz : (P.info? e).map (·.size) = some size) (hj : g = true → j < q)
    (hi : g = true → gx = true := by first | exact (fun _ => rfl) | exact (fun h => h) | exact (fun h => (Bool.and_eq_true_iff.1 h).1) | simp_all) (hi' : g = true → gy = true := by first | exact (fun _ => rfl) | exact (fun h => h) | exact (fun h => (Bool.and_eq_true_iff.1 h).1) | simp_all) : Y P w0 F L g o (.pointer (at_ A j size)) := fun n a hF hg w hM => by
  have := hm hg
  subst this
  exact y_indexOwn i ho hx hy hL ht hz hj hi hi' n a hF hg w hM
end
end Go.Eng
