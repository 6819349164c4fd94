/-
  DERIVED. GIVEN WITH THE SEED: THE CARDS: each row of YtfmbgaaonfgenaaGreatDoorRows.lean that lists a variable, with what it lists TIED to the program's text (the seventh form; the later family's looks); each row that meets fmt, with fmt's text TOLD by the authors' own Lean function (tested against real Go, not proved from fmt's source: count such statements apart). THE CARD IS WHAT COUNTS. Prove the row's statement (the work); the ties are given (YtfmbgaaonfgenaaGreatDoorTie.lean); close each card by the builder's one call (the guide's Derived/Test/ToyasCard.lean, 'card_holds'). Laid BY PROGRAM, IN A SANDBOX (cutbox-door.mjs). By AI agents, Wed Nov 11 2026. No macro, syntax, notation, axiom, sorry.
-/
import Derived.Test.YtfmbgaaonfgenaaGreatDoorRows
import GoSem.ClaimSeven
namespace Go.Proofs.YtfmbgaaonfgenaaGreatDoor
namespace Rows

/-- THE TIED CARD OF 'inqlaw2.FindHolds'. -/
def findHoldsCard : Claim7 := { stood := { row := findHoldsRow, standIns := [], harness := (true, "64d3d4af109312f5f8197db41aaf5327935ef45e538e38a6ff8a6e382ec0d7b7"), looks := false }, kinds := [], alts := [], laidByText := true, laidKinds := [.data, .pinned], laidTests := true, laidLooks := .later }
def FindHoldsCardSaid : Prop := Claim7.holds Tryz.pinned (.plain (OpenSpec.ofChange findHoldsSpec)) findHoldsCard

/-- THE TIED CARD OF 'inqkeep2.EventMasks'. -/
def eventMasksCard : Claim7 := { stood := { row := eventMasksRow, standIns := [], harness := (true, "64d3d4af109312f5f8197db41aaf5327935ef45e538e38a6ff8a6e382ec0d7b7"), looks := false }, kinds := [], alts := [], laidByText := true, laidKinds := [.data, .data, .data, .data, .pinned], laidTests := true, laidLooks := .later }
def EventMasksCardSaid : Prop := Claim7.holds Tryz.pinned (.plain (OpenSpec.ofChange eventMasksSpec)) eventMasksCard

/-- THE TIED CARD OF 'inqlaw2.FindIndexes'. -/
def findIndexesCard : Claim7 := { stood := { row := findIndexesRow, standIns := [], harness := (true, "64d3d4af109312f5f8197db41aaf5327935ef45e538e38a6ff8a6e382ec0d7b7"), looks := false }, kinds := [], alts := [], laidByText := true, laidKinds := [.data, .pinned], laidTests := true, laidLooks := .later }
def FindIndexesCardSaid : Prop := Claim7.holds Tryz.pinned (.plain (OpenSpec.ofChange findIndexesSpec)) findIndexesCard

/-- THE SECOND FORM's CARD OF 'inqlaw2.FindHolds'. -/
def findHoldsUptoCard : Claim7 := { stood := { row := findHoldsUptoRow, standIns := [], harness := (true, "64d3d4af109312f5f8197db41aaf5327935ef45e538e38a6ff8a6e382ec0d7b7"), looks := false }, kinds := [], alts := [], laidByText := true, laidKinds := [.data, .pinned], laidTests := true, laidLooks := .later }
def FindHoldsUptoCardSaid : Prop := Claim7.holds Tryz.pinned (.plain (OpenSpec.upto findHoldsSpec)) findHoldsUptoCard

/-- THE SECOND FORM's CARD OF 'inqkeep2.EventMasks'. -/
def eventMasksUptoCard : Claim7 := { stood := { row := eventMasksUptoRow, standIns := [], harness := (true, "64d3d4af109312f5f8197db41aaf5327935ef45e538e38a6ff8a6e382ec0d7b7"), looks := false }, kinds := [], alts := [], laidByText := true, laidKinds := [.data, .data, .data, .data, .pinned], laidTests := true, laidLooks := .later }
def EventMasksUptoCardSaid : Prop := Claim7.holds Tryz.pinned (.plain (OpenSpec.upto eventMasksSpec)) eventMasksUptoCard

/-- THE SECOND FORM's CARD OF 'inqlaw2.FindIndexes'. -/
def findIndexesUptoCard : Claim7 := { stood := { row := findIndexesUptoRow, standIns := [], harness := (true, "64d3d4af109312f5f8197db41aaf5327935ef45e538e38a6ff8a6e382ec0d7b7"), looks := false }, kinds := [], alts := [], laidByText := true, laidKinds := [.data, .pinned], laidTests := true, laidLooks := .later }
def FindIndexesUptoCardSaid : Prop := Claim7.holds Tryz.pinned (.plain (OpenSpec.upto findIndexesSpec)) findIndexesUptoCard
end Rows
end Go.Proofs.YtfmbgaaonfgenaaGreatDoor
