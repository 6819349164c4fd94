/- Clones of faults, tags and crumbs; frames put together, and cut. Conditions: those of each theorem. -/
import Derived.Test.YtpmlgnbbkpplhaaGreatDoorESame
import Derived.Test.YtpmlgnbbkpplhaaGreatDoorApp
import Derived.Test.YtpmlgnbbkpplhaaGreatDoorMany
namespace Go.Proofs.YtpmlgnbbkpplhaaGreatDoor
set_option linter.unusedSimpArgs false
set_option linter.unusedVariables false
set_option maxRecDepth 20000
open Go.RowKit Go.Eng
abbrev slF (s : Sl Frm) : List Value := [.slice s.A s.q s.c]
def sumFq : List (Sl Frm) → Nat
  | [] => 0
  | s :: r => s.q + sumFq r
def catF : List (Sl Frm) → List Frm
  | [] => []
  | s :: r => s.l ++ catF r
/-- a text cut to n bytes -/
def cutS (s : List UInt8) (n : Int) : List UInt8 := if (s.length : Int) ≤ n then s else if n < 3 then List.replicate n.toNat 46 else s.take (n - 3).toNat ++ [46, 46, 46]
end Go.Proofs.YtpmlgnbbkpplhaaGreatDoor
