/- A struct that lies within a box, read as a whole. No condition. -/
import Derived.Test.YtgbldojgbpgjbaaGreatDoorHere
import Derived.Test.YtgbldojgbpgjbaaGreatDoorMany
namespace Go.Eng
open Go.RowKit
section
variable {P : Program} {w0 w : World} {F : FL} {L : HL} {o : Oper} {g gx : Bool} {v : Value} {ty : TypeId} {x : Operand}
theorem y_fieldSome {t : TypeId} {A : Option Addr} {j size off i : Nat} (ho : o.op = .fieldAddr t x i) (hx : F.ev x = some (gx, .pointer (at_ A j size))) (hA : A.isSome = true)
    (hf : ∀ a w, (Instr.fieldAt t (.pointer (some a)) i).run P w = .ok (.pointer (some (a.add off))) w)
    (hi : g = true → gx = true := by first | exact (fun _ => rfl) | exact (fun h => h) | exact (fun h => (Bool.and_eq_true_iff.1 h).1) | simp_all) : Y P w0 F L g o (.pointer (at_ A (j * size + off) 1)) :=
  Y_of fun n a' hF hg w hM => by
    obtain ⟨ad, rfl⟩ := Option.isSome_iff_exists.1 hA
    simp only [execOp, ho, hF.eval_on hx hg hi, at_, Option.map_some, Sem.run_bind, hf, add_of_add, Nat.mul_one]; rfl
theorem own_some {e : TypeId} {i size q c : Nat} {A : Option Addr} {xs : List Value} (hM : Mem w0 L w) (hL : L.get i = some (.own e size (.slice A q c) q xs)) (h : 0 < q) : A.isSome = true := by
  obtain ⟨ad, rfl, _⟩ := (own_reads hM hL).2 h
  rfl
end
end Go.Eng
