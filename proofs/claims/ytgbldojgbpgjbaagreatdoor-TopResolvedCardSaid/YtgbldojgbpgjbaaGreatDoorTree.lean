/- Regions that draw their order and of which two parts write, each at will: the order is a tree. Also a cut behind a region. No condition. -/
import Derived.Test.YtgbldojgbpgjbaaGreatDoorPerm
namespace Go.Eng
open Go.RowKit
set_option linter.unusedSimpArgs false
set_option linter.unusedVariables false
inductive PTree where
  | nil
  | one (k : Nat) (t : PTree)
  | two (k1 : Nat) (t1 : PTree) (k2 : Nat) (t2 : PTree)
section
variable {P : Program} {ops : Array Oper} {cc : Nat → Nat → Bool} {K : Nat → World → Prop} {Q : Exit → Act → World → Prop}
end
section
variable {P : Program} {w0 : World} {n : Nat} {ops : Array Oper} {F : FL} {L L0 : HL} {Q : Exit → Act → World → Prop} {o : Oper} {g : Bool} {frs : List Bool} {A : List Nat} {tab : List (Nat × List Nat)} {r : PTree}
end
end Go.Eng
