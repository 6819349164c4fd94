/-
  DERIVED. GIVEN WITH THE SEED: THE CARDS: each row of YtfcedlfeinnhoaaGreatDoorRows.lean that lists a variable, with what it lists TIED to the program's text (the seventh form; the later family's looks); each row that meets fmt, with fmt's text TOLD by the authors' own Lean function (tested against real Go, not proved from fmt's source: count such statements apart). THE CARD IS WHAT COUNTS. Prove the row's statement (the work); the ties are given (YtfcedlfeinnhoaaGreatDoorTie.lean); close each card by the builder's one call (the guide's Derived/Test/ToyasCard.lean, 'card_holds'). Laid BY PROGRAM, IN A SANDBOX (cutbox-door.mjs). By AI agents, Wed Nov 11 2026. No macro, syntax, notation, axiom, sorry.
-/
import Derived.Test.YtfcedlfeinnhoaaGreatDoorRows
import GoSem.ClaimSeven
namespace Go.Proofs.YtfcedlfeinnhoaaGreatDoor
namespace Rows

/-- THE TIED CARD OF 'inqkeep2.FindRound'. -/
def findRoundCard : Claim7 := { stood := { row := findRoundRow, standIns := [], harness := (true, "82e2332e9a983a1cd2626e0eb700de4b5f7e56cb88fc5b3e497ece60823ba572"), looks := true }, kinds := [], alts := [], laidByText := true, laidKinds := [.data, .data, .data, .data, .sentinel, .sentinel, .widerDeep, .pinned], laidTests := true, laidLooks := .later }
def FindRoundCardSaid : Prop := Claim7.holds Tryz.pinned (.plain (OpenSpec.ofChange findRoundSpec)) findRoundCard

/-- THE TIED CARD OF 'inqlaw2.FindConds'. -/
def findCondsCard : Claim7 := { stood := { row := findCondsRow, standIns := [], harness := (true, "82e2332e9a983a1cd2626e0eb700de4b5f7e56cb88fc5b3e497ece60823ba572"), looks := true }, kinds := [], alts := [], laidByText := true, laidKinds := [.data, .data, .data, .data, .sentinel, .sentinel, .widerDeep, .pinned], laidTests := true, laidLooks := .later }
def FindCondsCardSaid : Prop := Claim7.holds Tryz.pinned (.plain (OpenSpec.ofChange findCondsSpec)) findCondsCard

/-- THE SECOND FORM's CARD OF 'inqkeep2.FindRound'. -/
def findRoundUptoCard : Claim7 := { stood := { row := findRoundUptoRow, standIns := [], harness := (true, "82e2332e9a983a1cd2626e0eb700de4b5f7e56cb88fc5b3e497ece60823ba572"), looks := true }, kinds := [], alts := [], laidByText := true, laidKinds := [.data, .data, .data, .data, .sentinel, .sentinel, .widerDeep, .pinned], laidTests := true, laidLooks := .later }
def FindRoundUptoCardSaid : Prop := Claim7.holds Tryz.pinned (.plain (OpenSpec.upto findRoundSpec)) findRoundUptoCard

/-- THE SECOND FORM's CARD OF 'inqlaw2.FindConds'. -/
def findCondsUptoCard : Claim7 := { stood := { row := findCondsUptoRow, standIns := [], harness := (true, "82e2332e9a983a1cd2626e0eb700de4b5f7e56cb88fc5b3e497ece60823ba572"), looks := true }, kinds := [], alts := [], laidByText := true, laidKinds := [.data, .data, .data, .data, .sentinel, .sentinel, .widerDeep, .pinned], laidTests := true, laidLooks := .later }
def FindCondsUptoCardSaid : Prop := Claim7.holds Tryz.pinned (.plain (OpenSpec.upto findCondsSpec)) findCondsUptoCard
end Rows
end Go.Proofs.YtfcedlfeinnhoaaGreatDoor
