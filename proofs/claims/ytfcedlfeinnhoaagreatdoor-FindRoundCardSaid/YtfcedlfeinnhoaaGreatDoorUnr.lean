/- A loop of a few rounds, walked round by round. No condition. -/
import Derived.Test.YtfcedlfeinnhoaaGreatDoorMore
import Derived.LoopN
namespace Go.Eng
open Go.RowKit
section
variable {P : Program} {w0 : World} {n : Nat} {c : Code} {F : FL} {L : HL} {Q : Exit → Act → World → Prop}
theorem T_rounds (m : Nat) (h : T P w0 n c F L (Exit.then (Code.rounds P c Q m) Q)) : T P w0 n (.loop c) F L Q := fun a w hF hM => wp_loop_rounds (m + 1) (h a w hF hM)
end
end Go.Eng
