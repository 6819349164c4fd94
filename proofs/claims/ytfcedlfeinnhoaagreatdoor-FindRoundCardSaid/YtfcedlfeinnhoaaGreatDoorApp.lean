/- Slices appended from wherever they lie, made, shortened, asked for nil. No condition. -/
import Derived.Test.YtfcedlfeinnhoaaGreatDoorEqS
namespace Go.Eng
set_option linter.unusedSimpArgs false
set_option linter.unusedVariables false
set_option linter.unusedSectionVars false
open Go.RowKit
section
variable {P : Program} {w0 : World} {n : Nat} {ops : Array Oper} {l : List Oper} {F : FL} {L : HL} {Q : Exit → Act → World → Prop} {o : Oper} {g : Bool} {v : Value} {x y z : Operand} {t t' : TypeId} {gx gy : Bool}
theorem run_equalIn_sl (k : Nat) {e : TypeId} {A : Option Addr} {q c : Nat} (ht : P.underlying t = some (.slice e)) (w : World) : (Op.equalIn (k + 1) t (.slice A q c) (.slice none 0 0)).run P w = .ok A.isNone w := by
  cases A <;> simp [Op.equalIn, run_underlying ht]
/-- a slice beside nil -/
theorem b_eqln {e : TypeId} {A : Option Addr} {q c : Nat} (ht : P.underlying t = some (.slice e)) : ∀ w, (do eqGuard .eql t x y (.slice A q c) (.slice none 0 0); binOp .eql t (.slice A q c) (.slice none 0 0) : Sem Value).run P w = .ok (.bool A.isNone) w := fun w => by
  simp only [eqGuard_at_slice, binOp, Op.equal, Op.maxDepth]
  simp [run_equalIn_sl 9999 ht]
theorem b_neqn {e : TypeId} {A : Option Addr} {q c : Nat} (ht : P.underlying t = some (.slice e)) : ∀ w, (do eqGuard .neq t x y (.slice A q c) (.slice none 0 0); binOp .neq t (.slice A q c) (.slice none 0 0) : Sem Value).run P w = .ok (.bool (!A.isNone)) w := fun w => by
  simp only [eqGuard_at_slice, binOp, Op.equal, Op.maxDepth]
  simp [run_equalIn_sl 9999 ht]
/-- a row of ours, shortened -/
theorem S_shrink (i h : Nat) {e : TypeId} {size q c : Nat} {A : Option Addr} {xs : List Value} (hL : L.get i = some (.own e size (.slice A q c) q xs)) (hle : h ≤ q) (hK : S P w0 n ops l F ((i, .own e size (.slice A h c) h (xs.take (h * size))) :: L) Q) : S P w0 n ops l F L Q := fun a w hF hM => by
  refine hK a w hF (hM.turn (p' := .own e size (.slice A h c) h (xs.take (h * size))) hL ⟨rfl, rfl, rfl, Nat.le_refl _, fun _ _ _ => rfl⟩ ?_ (.inl (by cases A <;> rfl)))
  have hown : w.ownsRow w0.heap.size e size (.slice A q c) q xs := hM.sat i _ hL
  have hlen : (xs.take (h * size)).length = h * size := by
    rw [List.length_take, hown.1]
    exact Nat.min_eq_left (Nat.mul_le_mul_right size hle)
  rcases hown.2 with ⟨hv, h0⟩ | ⟨gb, cap, cur, hv, hb, hgb, hnc, hcm, hcs, htk⟩
  · have hA : A = none := by injection hv
    have hc : c = 0 := by injection hv
    have hh : h = 0 := by omega
    subst hA; subst hc; subst hh
    exact ⟨hlen, .inl ⟨rfl, rfl⟩⟩
  · have hA : A = some ⟨gb, 0, none⟩ := by injection hv
    have hc : c = cap := by injection hv
    subst hA; subst hc
    exact ⟨hlen, .inr ⟨gb, c, cur, rfl, hb, hgb, by omega, hcm, hcs, by rw [← htk, List.take_take, Nat.min_eq_left (Nat.mul_le_mul_right size hle)]⟩⟩
end
end Go.Eng
