/-
  DERIVED. GIVEN WITH THE SEED: THE CARDS: each row of YtkkngcdikbhkjaaDoorRows.lean that lists a variable, with what it lists TIED to the program's text (the seventh form; the later family's looks); each row that meets fmt, with fmt's text TOLD by the authors' own Lean function (tested against real Go, not proved from fmt's source: count such statements apart). THE CARD IS WHAT COUNTS. Prove the row's statement (the work); the ties are given (YtkkngcdikbhkjaaDoorTie.lean); close each card by the builder's one call (the guide's Derived/Test/ToyasCard.lean, 'card_holds'). Laid BY PROGRAM, IN A SANDBOX (cutbox-door.mjs). By AI agents, Wed Nov 11 2026. No macro, syntax, notation, axiom, sorry.
-/
import Derived.Test.YtkkngcdikbhkjaaDoorRows
import GoSem.ClaimSeven
namespace Go.Proofs.YtkkngcdikbhkjaaDoor
namespace Rows

/-- THE TIED CARD OF 'inqkeep2.FindPlain'. -/
def findPlainCard : Claim7 := { stood := { row := findPlainRow, standIns := [], harness := (true, "2bf6893b6661015bdc269f95133bab4910cca5b6f6d84dcac12d2ed89dbb83ca"), looks := true }, kinds := [], alts := [], laidByText := true, laidKinds := [.data, .pinned], laidTests := true, laidLooks := .later }
def FindPlainCardSaid : Prop := Claim7.holds Tryd.pinned (.plain (OpenSpec.ofChange findPlainSpec)) findPlainCard

/-- THE TIED CARD OF 'inqlaw2.ReleaseStates'. -/
def releaseStatesCard : Claim7 := { stood := { row := releaseStatesRow, standIns := [], harness := (true, "2bf6893b6661015bdc269f95133bab4910cca5b6f6d84dcac12d2ed89dbb83ca"), looks := true }, kinds := [], alts := [], laidByText := true, laidKinds := [.data, .data, .data, .data, .sentinel, .sentinel, .widerDeep, .pinned], laidTests := true, laidLooks := .later }
def ReleaseStatesCardSaid : Prop := Claim7.holds Tryd.pinned (.plain (OpenSpec.ofChange releaseStatesSpec)) releaseStatesCard

/-- THE SECOND FORM's CARD OF 'inqkeep2.FindPlain'. -/
def findPlainUptoCard : Claim7 := { stood := { row := findPlainUptoRow, standIns := [], harness := (true, "2bf6893b6661015bdc269f95133bab4910cca5b6f6d84dcac12d2ed89dbb83ca"), looks := true }, kinds := [], alts := [], laidByText := true, laidKinds := [.data, .pinned], laidTests := true, laidLooks := .later }
def FindPlainUptoCardSaid : Prop := Claim7.holds Tryd.pinned (.plain (OpenSpec.upto findPlainSpec)) findPlainUptoCard

/-- THE SECOND FORM's CARD OF 'inqlaw2.ReleaseStates'. -/
def releaseStatesUptoCard : Claim7 := { stood := { row := releaseStatesUptoRow, standIns := [], harness := (true, "2bf6893b6661015bdc269f95133bab4910cca5b6f6d84dcac12d2ed89dbb83ca"), looks := true }, kinds := [], alts := [], laidByText := true, laidKinds := [.data, .data, .data, .data, .sentinel, .sentinel, .widerDeep, .pinned], laidTests := true, laidLooks := .later }
def ReleaseStatesUptoCardSaid : Prop := Claim7.holds Tryd.pinned (.plain (OpenSpec.upto releaseStatesSpec)) releaseStatesUptoCard
end Rows
end Go.Proofs.YtkkngcdikbhkjaaDoor
