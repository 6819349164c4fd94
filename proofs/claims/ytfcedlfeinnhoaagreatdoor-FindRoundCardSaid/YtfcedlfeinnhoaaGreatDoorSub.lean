/- A struct that lies within a box, read as a whole. No condition. -/
import Derived.Test.YtfcedlfeinnhoaaGreatDoorHere
import Derived.Test.YtfcedlfeinnhoaaGreatDoorMany
namespace Go.Eng
open Go.RowKit
section
variable {P : Program} {w0 w : World} {F : FL} {L : HL} {o : Oper} {g gx : Bool} {v : Value} {ty : TypeId} {x : Operand}
theorem y_fieldSome {t : TypeId} {A : Option Addr} {j size off i : Nat} (ho : o.op = .fieldAddr t x i) (hx : F.ev x = some (gx, .pointer (at_ A j size))) (hA : A.isSome = true)
    (hf : ∀ a w, (Instr.fieldAt t (.pointer (some a)) i).run P w = .ok (.pointer (some (a.add off))) w)
    (hi : g = true → gx = true := by first | exact (fun _ => rfl) | exact (fun h => h) | exact (fun h => (Bool.and_eq_true_iff.1 h).1) | simp_all) : Y P w0 F L g o (.pointer (at_ A (j * size + off) 1)) :=
  Y_of fun n a' hF hg w hM => by
    obtain ⟨ad, rfl⟩ := Option.isSome_iff_exists.1 hA
    simp only [execOp, ho, hF.eval_on hx hg hi, at_, Option.map_some, Sem.run_bind, hf, add_of_add, Nat.mul_one]; rfl
theorem z_nilCheckSome {A : Option Addr} {j size : Nat} (ho : o.op = .nilCheck x) (hx : F.ev x = some (true, .pointer (at_ A j size))) (hA : A.isSome = true) :
    ∀ n a', Fr n F a' → ∀ w, Mem w0 L w → (execOp a'.eval o).run P w = .ok (.value (.pointer (at_ A j size))) w := fun n a' hF w hM => by
  obtain ⟨ad, rfl⟩ := Option.isSome_iff_exists.1 hA
  have hx' : a'.eval x = .pointer (at_ (some ad) j size) := by have := hF.eval hx; simpa using this
  simp only [execOp, ho, hx', at_, Option.map_some]; rfl
theorem T_knownS {n : Nat} {c : Code} {Q : Exit → Act → World → Prop} {p : Prop} (hp : ∀ w, Mem w0 L w → p) (h : p → T P w0 n c F L Q) : T P w0 n c F L Q := fun a w hF hM => h (hp w hM) a w hF hM
end
end Go.Eng
