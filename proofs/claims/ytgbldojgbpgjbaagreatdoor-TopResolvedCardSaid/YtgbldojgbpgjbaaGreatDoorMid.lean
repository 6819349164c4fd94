/- What is known behind a branching, said once for both its ways; what it does not touch is kept; a way that returns is no way behind it. No condition. -/
import Derived.Test.YtgbldojgbpgjbaaGreatDoorMore
import Derived.Test.YtgbldojgbpgjbaaGreatDoorLend
namespace Go.Eng
open Go.RowKit
set_option linter.unusedVariables false
section
variable {P : Program} {w0 : World} {n : Nat} {c : Code} {F : FL} {L : HL} {Q : Exit → Act → World → Prop}
def QMid {X : Type} (w0 : World) (n : Nat) (F : X → FL) (L : X → HL) (K : FL) (KL : HL) (Q : Exit → Act → World → Prop) : Exit → Act → World → Prop
  | .normal, a, w => ∃ x, Fr n (F x ++ K) a ∧ Mem w0 (L x ++ KL) w
  | e, a, w => Q e a w
theorem T_mid {X : Type} {kf kl : List (Nat × Nat)} {K : FL} {KL : HL} (F' : X → FL) (L' : X → HL) (hK : KeepF kf F K) (hKL : KeepL kl L KL)
    (h1 : T P w0 n c F L (QMid w0 n F' L' K KL Q)) (h2 : ∀ x, S P w0 n #[] [] (F' x ++ K) (L' x ++ KL) Q) : T P w0 n c F L Q := fun a w hF hM =>
  wp_mono (h1 a w hF hM) fun e a w hq => by cases e <;> first | (obtain ⟨x, hq1, hq2⟩ := hq; exact h2 x a w hq1 hq2) | exact hq
theorem mid_end {X : Type} {kf kl : List (Nat × Nat)} {K : FL} {KL : HL} {F' : X → FL} {L' : X → HL} (x : X) (hK : KeepF kf F K) (hKL : KeepL kl L KL) (hF : SubF F (F' x)) (hL : SubL L (L' x)) :
    ∀ a w, Fr n F a → Mem w0 L w → QMid w0 n F' L' K KL Q .normal a w := fun _ _ h1 h2 => ⟨x, h1.keep hK _ hF, h2.keep hKL _ hL⟩
end
end Go.Eng
