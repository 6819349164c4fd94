/- An item gets another number. No condition. -/
import Derived.Test.YtfcedlfeinnhoaaGreatDoorMany
namespace Go.Eng
set_option linter.unusedSimpArgs false
set_option linter.unusedVariables false
open Go.RowKit
section
variable {P : Program} {w0 w : World} {n : Nat} {ops : Array Oper} {l : List Oper} {c : Code} {F : FL} {L : HL} {Q : Exit → Act → World → Prop} {i j : Nat} {p : It}
theorem Mem.moveK {ks : List (Nat × Nat)} {KL : HL} (h : Mem w0 L w) (hi : L.get i = some p) (hK : KeepL ks L KL) (hki : memR ks i = true) : Mem w0 ((j, p) :: KL) w := by
  refine ⟨h.below, fun k q hq => ?_, fun k k' q q' hkk hq hq' => ?_⟩
  · rcases HL.get_cons hq with ⟨rfl, rfl⟩ | ⟨_, h'⟩
    · exact h.sat i _ hi
    · exact h.sat k q (hK k q h').2
  · have ne : ∀ k q, KL.get k = some q → i ≠ k := fun k q hk e => by
      have := (hK k q hk).1
      rw [← e, hki] at this; cases this
    rcases HL.get_cons hq with ⟨rfl, rfl⟩ | ⟨_, h1⟩ <;> rcases HL.get_cons hq' with ⟨rfl, rfl⟩ | ⟨_, h2⟩
    · exact absurd rfl hkk
    · exact h.apart i k' _ _ (ne k' q' h2) hi (hK k' q' h2).2
    · exact h.apart k i _ _ (fun e => ne k q h1 e.symm) (hK k q h1).2 hi
    · exact h.apart k k' _ _ hkk (hK k q h1).2 (hK k' q' h2).2
theorem S_move (ks : List (Nat × Nat)) (j i : Nat) {KL : HL} (hi : L.get i = some p) (hki : memR ks i = true) (hK : KeepL ks L KL) (h : S P w0 n ops l F ((j, p) :: KL) Q) : S P w0 n ops l F L Q := fun a w hF hM => h a w hF (hM.moveK hi hK hki)
end
end Go.Eng
