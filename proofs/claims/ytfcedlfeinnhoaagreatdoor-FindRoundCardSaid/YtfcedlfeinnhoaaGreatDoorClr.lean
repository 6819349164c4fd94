/- clear of the tail of a row of ours: the row is then its head. A sub-slice of such a row, and its elements. Conditions: those of each theorem. -/
import Derived.Test.YtfcedlfeinnhoaaGreatDoorSwp
namespace Go.Eng
set_option linter.unusedSimpArgs false
set_option linter.unusedVariables false
open Go.RowKit
section
variable {P : Program} {w0 : World} {n : Nat} {ops : Array Oper} {l : List Oper} {F : FL} {L : HL} {Q : Exit → Act → World → Prop} {o : Oper} {g : Bool} {v : Value} {x y z : Operand} {t t' : TypeId} {gx gy : Bool}
theorem slice0 {A : Option Addr} {c s : Nat} : (if c = 0 then A else A.map (·.add (0 * s))) = A := by
  split
  · rfl
  · cases A <;> simp [Addr.add]
theorem own_cap {w : World} {e : TypeId} {s q c i : Nat} {A : Option Addr} {xs : List Value} (hM : Mem w0 L w) (hL : L.get i = some (.own e s (.slice A q c) q xs)) : q ≤ c := by
  have h : w.ownsRow w0.heap.size e s (.slice A q c) q xs := hM.sat i _ hL
  rcases h.2 with ⟨hvv, h0⟩ | ⟨gb, cap, cur, hvv, _, _, hnc, _⟩
  · omega
  · have : c = cap := by injection hvv
    omega
theorem T_cap {k : Code} (i : Nat) {e : TypeId} {size q c : Nat} {A : Option Addr} {xs : List Value} (hL : L.get i = some (.own e size (.slice A q c) q xs)) (h : q ≤ c → T P w0 n k F L Q) : T P w0 n k F L Q :=
  fun a w hF hM => h (own_cap hM hL) a w hF hM
end
end Go.Eng
