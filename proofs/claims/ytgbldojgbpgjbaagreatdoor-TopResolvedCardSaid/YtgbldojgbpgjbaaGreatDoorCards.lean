/-
  DERIVED. GIVEN WITH THE SEED: THE CARDS: each row of YtgbldojgbpgjbaaGreatDoorRows.lean that lists a variable, with what it lists TIED to the program's text (the seventh form; the later family's looks); each row that meets fmt, with fmt's text TOLD by the authors' own Lean function (tested against real Go, not proved from fmt's source: count such statements apart). THE CARD IS WHAT COUNTS. Prove the row's statement (the work); the ties are given (YtgbldojgbpgjbaaGreatDoorTie.lean); close each card by the builder's one call (the guide's Derived/Test/ToyasCard.lean, 'card_holds'). Laid BY PROGRAM, IN A SANDBOX (cutbox-door.mjs). By AI agents, Wed Nov 11 2026. No macro, syntax, notation, axiom, sorry.
-/
import Derived.Test.YtgbldojgbpgjbaaGreatDoorRows
import GoSem.ClaimSeven
namespace Go.Proofs.YtgbldojgbpgjbaaGreatDoor
namespace Rows

/-- THE TIED CARD OF 'inqtop.TopResolved'. -/
def topResolvedCard : Claim7 := { stood := { row := topResolvedRow, standIns := [], harness := (true, "4f703008452fbb727fb6f7404df50ac3aed801c5944f50a7e4ed3b76580d4bad"), looks := true }, kinds := [], alts := [], laidByText := true, laidKinds := [.data, .data, .data, .data, .sentinel, .sentinel, .pinned], laidTests := true, laidLooks := .later }
def TopResolvedCardSaid : Prop := Claim7.holds Tryz.pinned (.plain (OpenSpec.ofChange topResolvedSpec)) topResolvedCard

/-- THE TIED CARD OF 'inqlaw2.EventTexts'. -/
def eventTextsCard : Claim7 := { stood := { row := eventTextsRow, standIns := [], harness := (true, "4f703008452fbb727fb6f7404df50ac3aed801c5944f50a7e4ed3b76580d4bad"), looks := true }, kinds := [], alts := [], laidByText := true, laidKinds := [.data, .data, .data, .data, .sentinel, .sentinel, .pinned], laidTests := true, laidLooks := .later }
def EventTextsCardSaid : Prop := Claim7.holds Tryz.pinned (.plain (OpenSpec.ofChange eventTextsSpec)) eventTextsCard

/-- THE SECOND FORM's CARD OF 'inqtop.TopResolved'. -/
def topResolvedUptoCard : Claim7 := { stood := { row := topResolvedUptoRow, standIns := [], harness := (true, "4f703008452fbb727fb6f7404df50ac3aed801c5944f50a7e4ed3b76580d4bad"), looks := true }, kinds := [], alts := [], laidByText := true, laidKinds := [.data, .data, .data, .data, .sentinel, .sentinel, .pinned], laidTests := true, laidLooks := .later }
def TopResolvedUptoCardSaid : Prop := Claim7.holds Tryz.pinned (.plain (OpenSpec.upto topResolvedSpec)) topResolvedUptoCard

/-- THE SECOND FORM's CARD OF 'inqlaw2.EventTexts'. -/
def eventTextsUptoCard : Claim7 := { stood := { row := eventTextsUptoRow, standIns := [], harness := (true, "4f703008452fbb727fb6f7404df50ac3aed801c5944f50a7e4ed3b76580d4bad"), looks := true }, kinds := [], alts := [], laidByText := true, laidKinds := [.data, .data, .data, .data, .sentinel, .sentinel, .pinned], laidTests := true, laidLooks := .later }
def EventTextsUptoCardSaid : Prop := Claim7.holds Tryz.pinned (.plain (OpenSpec.upto eventTextsSpec)) eventTextsUptoCard
end Rows
end Go.Proofs.YtgbldojgbpgjbaaGreatDoor
