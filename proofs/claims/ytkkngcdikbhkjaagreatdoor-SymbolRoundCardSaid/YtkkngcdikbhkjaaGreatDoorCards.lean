/-
  DERIVED. GIVEN WITH THE SEED: THE CARDS: each row of YtkkngcdikbhkjaaGreatDoorRows.lean that lists a variable, with what it lists TIED to the program's text (the seventh form; the later family's looks); each row that meets fmt, with fmt's text TOLD by the authors' own Lean function (tested against real Go, not proved from fmt's source: count such statements apart). THE CARD IS WHAT COUNTS. Prove the row's statement (the work); the ties are given (YtkkngcdikbhkjaaGreatDoorTie.lean); close each card by the builder's one call (the guide's Derived/Test/ToyasCard.lean, 'card_holds'). Laid BY PROGRAM, IN A SANDBOX (cutbox-door.mjs). By AI agents, Wed Nov 11 2026. No macro, syntax, notation, axiom, sorry.
-/
import Derived.Test.YtkkngcdikbhkjaaGreatDoorRows
import GoSem.ClaimSeven
namespace Go.Proofs.YtkkngcdikbhkjaaGreatDoor
namespace Rows

/-- THE TIED CARD OF 'inqlaw2.FindHolds'. -/
def findHoldsCard : Claim7 := { stood := { row := findHoldsRow, standIns := [], harness := (true, "2650e58105bf92068a3695b8238897f6ebe5ace3046a5e08c77c18f4fd36fb17"), looks := true }, kinds := [], alts := [], laidByText := true, laidKinds := [.pinned, .data], laidTests := true, laidLooks := .later }
def FindHoldsCardSaid : Prop := Claim7.holds Tryz.pinned (.plain (OpenSpec.ofChange findHoldsSpec)) findHoldsCard

/-- THE TIED CARD OF 'inqlaw2.EventClears'. -/
def eventClearsCard : Claim7 := { stood := { row := eventClearsRow, standIns := [], harness := (true, "2650e58105bf92068a3695b8238897f6ebe5ace3046a5e08c77c18f4fd36fb17"), looks := true }, kinds := [], alts := [], laidByText := true, laidKinds := [.pinned, .data, .data, .data, .data], laidTests := true, laidLooks := .later }
def EventClearsCardSaid : Prop := Claim7.holds Tryz.pinned (.plain (OpenSpec.ofChange eventClearsSpec)) eventClearsCard

/-- THE TIED CARD OF 'inqkeep2.EventMasks'. -/
def eventMasksCard : Claim7 := { stood := { row := eventMasksRow, standIns := [], harness := (true, "2650e58105bf92068a3695b8238897f6ebe5ace3046a5e08c77c18f4fd36fb17"), looks := true }, kinds := [], alts := [], laidByText := true, laidKinds := [.data, .data, .data, .pinned, .data], laidTests := true, laidLooks := .later }
def EventMasksCardSaid : Prop := Claim7.holds Tryz.pinned (.plain (OpenSpec.ofChange eventMasksSpec)) eventMasksCard

/-- THE TIED CARD OF 'inqlaw2.SymbolTexts'. -/
def symbolTextsCard : Claim7 := { stood := { row := symbolTextsRow, standIns := [], harness := (true, "2650e58105bf92068a3695b8238897f6ebe5ace3046a5e08c77c18f4fd36fb17"), looks := true }, kinds := [], alts := [], laidByText := true, laidKinds := [.pinned, .data, .data, .data, .data, .sentinel, .sentinel], laidTests := true, laidLooks := .later }
def SymbolTextsCardSaid : Prop := Claim7.holds Tryz.pinned (.plain (OpenSpec.ofChange symbolTextsSpec)) symbolTextsCard

/-- THE TIED CARD OF 'inqkeep2.SymbolRound'. -/
def symbolRoundCard : Claim7 := { stood := { row := symbolRoundRow, standIns := [], harness := (true, "2650e58105bf92068a3695b8238897f6ebe5ace3046a5e08c77c18f4fd36fb17"), looks := true }, kinds := [], alts := [], laidByText := true, laidKinds := [.pinned, .data, .data, .data, .data, .sentinel, .sentinel], laidTests := true, laidLooks := .later }
def SymbolRoundCardSaid : Prop := Claim7.holds Tryz.pinned (.plain (OpenSpec.ofChange symbolRoundSpec)) symbolRoundCard

/-- THE TIED CARD OF 'inqlaw2.FindIndexes'. -/
def findIndexesCard : Claim7 := { stood := { row := findIndexesRow, standIns := [], harness := (true, "2650e58105bf92068a3695b8238897f6ebe5ace3046a5e08c77c18f4fd36fb17"), looks := true }, kinds := [], alts := [], laidByText := true, laidKinds := [.pinned, .data], laidTests := true, laidLooks := .later }
def FindIndexesCardSaid : Prop := Claim7.holds Tryz.pinned (.plain (OpenSpec.ofChange findIndexesSpec)) findIndexesCard

/-- THE TIED CARD OF 'inqlaw2.SymbolPlaces'. -/
def symbolPlacesCard : Claim7 := { stood := { row := symbolPlacesRow, standIns := [], harness := (true, "2650e58105bf92068a3695b8238897f6ebe5ace3046a5e08c77c18f4fd36fb17"), looks := true }, kinds := [], alts := [], laidByText := true, laidKinds := [.pinned, .data, .data, .data, .data], laidTests := true, laidLooks := .later }
def SymbolPlacesCardSaid : Prop := Claim7.holds Tryz.pinned (.plain (OpenSpec.ofChange symbolPlacesSpec)) symbolPlacesCard

/-- THE SECOND FORM's CARD OF 'inqlaw2.FindHolds'. -/
def findHoldsUptoCard : Claim7 := { stood := { row := findHoldsUptoRow, standIns := [], harness := (true, "2650e58105bf92068a3695b8238897f6ebe5ace3046a5e08c77c18f4fd36fb17"), looks := true }, kinds := [], alts := [], laidByText := true, laidKinds := [.pinned, .data], laidTests := true, laidLooks := .later }
def FindHoldsUptoCardSaid : Prop := Claim7.holds Tryz.pinned (.plain (OpenSpec.upto findHoldsSpec)) findHoldsUptoCard

/-- THE SECOND FORM's CARD OF 'inqlaw2.EventClears'. -/
def eventClearsUptoCard : Claim7 := { stood := { row := eventClearsUptoRow, standIns := [], harness := (true, "2650e58105bf92068a3695b8238897f6ebe5ace3046a5e08c77c18f4fd36fb17"), looks := true }, kinds := [], alts := [], laidByText := true, laidKinds := [.pinned, .data, .data, .data, .data], laidTests := true, laidLooks := .later }
def EventClearsUptoCardSaid : Prop := Claim7.holds Tryz.pinned (.plain (OpenSpec.upto eventClearsSpec)) eventClearsUptoCard

/-- THE SECOND FORM's CARD OF 'inqkeep2.EventMasks'. -/
def eventMasksUptoCard : Claim7 := { stood := { row := eventMasksUptoRow, standIns := [], harness := (true, "2650e58105bf92068a3695b8238897f6ebe5ace3046a5e08c77c18f4fd36fb17"), looks := true }, kinds := [], alts := [], laidByText := true, laidKinds := [.data, .data, .data, .pinned, .data], laidTests := true, laidLooks := .later }
def EventMasksUptoCardSaid : Prop := Claim7.holds Tryz.pinned (.plain (OpenSpec.upto eventMasksSpec)) eventMasksUptoCard

/-- THE SECOND FORM's CARD OF 'inqlaw2.SymbolTexts'. -/
def symbolTextsUptoCard : Claim7 := { stood := { row := symbolTextsUptoRow, standIns := [], harness := (true, "2650e58105bf92068a3695b8238897f6ebe5ace3046a5e08c77c18f4fd36fb17"), looks := true }, kinds := [], alts := [], laidByText := true, laidKinds := [.pinned, .data, .data, .data, .data, .sentinel, .sentinel], laidTests := true, laidLooks := .later }
def SymbolTextsUptoCardSaid : Prop := Claim7.holds Tryz.pinned (.plain (OpenSpec.upto symbolTextsSpec)) symbolTextsUptoCard

/-- THE SECOND FORM's CARD OF 'inqkeep2.SymbolRound'. -/
def symbolRoundUptoCard : Claim7 := { stood := { row := symbolRoundUptoRow, standIns := [], harness := (true, "2650e58105bf92068a3695b8238897f6ebe5ace3046a5e08c77c18f4fd36fb17"), looks := true }, kinds := [], alts := [], laidByText := true, laidKinds := [.pinned, .data, .data, .data, .data, .sentinel, .sentinel], laidTests := true, laidLooks := .later }
def SymbolRoundUptoCardSaid : Prop := Claim7.holds Tryz.pinned (.plain (OpenSpec.upto symbolRoundSpec)) symbolRoundUptoCard

/-- THE SECOND FORM's CARD OF 'inqlaw2.FindIndexes'. -/
def findIndexesUptoCard : Claim7 := { stood := { row := findIndexesUptoRow, standIns := [], harness := (true, "2650e58105bf92068a3695b8238897f6ebe5ace3046a5e08c77c18f4fd36fb17"), looks := true }, kinds := [], alts := [], laidByText := true, laidKinds := [.pinned, .data], laidTests := true, laidLooks := .later }
def FindIndexesUptoCardSaid : Prop := Claim7.holds Tryz.pinned (.plain (OpenSpec.upto findIndexesSpec)) findIndexesUptoCard

/-- THE SECOND FORM's CARD OF 'inqlaw2.SymbolPlaces'. -/
def symbolPlacesUptoCard : Claim7 := { stood := { row := symbolPlacesUptoRow, standIns := [], harness := (true, "2650e58105bf92068a3695b8238897f6ebe5ace3046a5e08c77c18f4fd36fb17"), looks := true }, kinds := [], alts := [], laidByText := true, laidKinds := [.pinned, .data, .data, .data, .data], laidTests := true, laidLooks := .later }
def SymbolPlacesUptoCardSaid : Prop := Claim7.holds Tryz.pinned (.plain (OpenSpec.upto symbolPlacesSpec)) symbolPlacesUptoCard
end Rows
end Go.Proofs.YtkkngcdikbhkjaaGreatDoor
