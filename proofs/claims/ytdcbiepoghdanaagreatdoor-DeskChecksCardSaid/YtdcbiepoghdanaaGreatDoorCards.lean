/-
  DERIVED. GIVEN WITH THE SEED: THE CARDS: each row of YtdcbiepoghdanaaGreatDoorRows.lean that lists a variable, with what it lists TIED to the program's text (the seventh form; the later family's looks); each row that meets fmt, with fmt's text TOLD by the authors' own Lean function (tested against real Go, not proved from fmt's source: count such statements apart). THE CARD IS WHAT COUNTS. Prove the row's statement (the work); the ties are given (YtdcbiepoghdanaaGreatDoorTie.lean); close each card by the builder's one call (the guide's Derived/Test/ToyasCard.lean, 'card_holds'). Laid BY PROGRAM, IN A SANDBOX (cutbox-door.mjs). By AI agents, Wed Nov 11 2026. No macro, syntax, notation, axiom, sorry.
-/
import Derived.Test.YtdcbiepoghdanaaGreatDoorRows
import GoSem.ClaimSeven
namespace Go.Proofs.YtdcbiepoghdanaaGreatDoor
namespace Rows

/-- THE TIED CARD OF 'inqkeep2.FindRound'. -/
def findRoundCard : Claim7 := { stood := { row := findRoundRow, standIns := [], harness := (true, "02ba986471e502e0d44aaef25e3b5b25adae744c1164158eac7baabf7fc42b47"), looks := true }, kinds := [], alts := [], laidByText := true, laidKinds := [.data, .data, .data, .data, .sentinel, .sentinel, .widerDeep, .pinned], laidTests := true, laidLooks := .later }
def FindRoundCardSaid : Prop := Claim7.holds Tryz.pinned (.plain (OpenSpec.ofChange findRoundSpec)) findRoundCard

/-- THE TIED CARD OF 'inqlaw2.FindConds'. -/
def findCondsCard : Claim7 := { stood := { row := findCondsRow, standIns := [], harness := (true, "02ba986471e502e0d44aaef25e3b5b25adae744c1164158eac7baabf7fc42b47"), looks := true }, kinds := [], alts := [], laidByText := true, laidKinds := [.data, .data, .data, .data, .sentinel, .sentinel, .widerDeep, .pinned], laidTests := true, laidLooks := .later }
def FindCondsCardSaid : Prop := Claim7.holds Tryz.pinned (.plain (OpenSpec.ofChange findCondsSpec)) findCondsCard

/-- THE TIED CARD OF 'inqlaw2.DeskChecks'. -/
def deskChecksCard : Claim7 := { stood := { row := deskChecksRow, standIns := [], harness := (true, "02ba986471e502e0d44aaef25e3b5b25adae744c1164158eac7baabf7fc42b47"), looks := true }, kinds := [], alts := [], laidByText := true, laidKinds := [.data, .data, .data, .data, .sentinel, .sentinel, .pinned], laidTests := true, laidLooks := .later }
def DeskChecksCardSaid : Prop := Claim7.holds Tryz.pinned (.plain (OpenSpec.ofChange deskChecksSpec)) deskChecksCard

/-- THE SECOND FORM's CARD OF 'inqkeep2.FindRound'. -/
def findRoundUptoCard : Claim7 := { stood := { row := findRoundUptoRow, standIns := [], harness := (true, "02ba986471e502e0d44aaef25e3b5b25adae744c1164158eac7baabf7fc42b47"), looks := true }, kinds := [], alts := [], laidByText := true, laidKinds := [.data, .data, .data, .data, .sentinel, .sentinel, .widerDeep, .pinned], laidTests := true, laidLooks := .later }
def FindRoundUptoCardSaid : Prop := Claim7.holds Tryz.pinned (.plain (OpenSpec.upto findRoundSpec)) findRoundUptoCard

/-- THE SECOND FORM's CARD OF 'inqlaw2.FindConds'. -/
def findCondsUptoCard : Claim7 := { stood := { row := findCondsUptoRow, standIns := [], harness := (true, "02ba986471e502e0d44aaef25e3b5b25adae744c1164158eac7baabf7fc42b47"), looks := true }, kinds := [], alts := [], laidByText := true, laidKinds := [.data, .data, .data, .data, .sentinel, .sentinel, .widerDeep, .pinned], laidTests := true, laidLooks := .later }
def FindCondsUptoCardSaid : Prop := Claim7.holds Tryz.pinned (.plain (OpenSpec.upto findCondsSpec)) findCondsUptoCard

/-- THE SECOND FORM's CARD OF 'inqlaw2.DeskChecks'. -/
def deskChecksUptoCard : Claim7 := { stood := { row := deskChecksUptoRow, standIns := [], harness := (true, "02ba986471e502e0d44aaef25e3b5b25adae744c1164158eac7baabf7fc42b47"), looks := true }, kinds := [], alts := [], laidByText := true, laidKinds := [.data, .data, .data, .data, .sentinel, .sentinel, .pinned], laidTests := true, laidLooks := .later }
def DeskChecksUptoCardSaid : Prop := Claim7.holds Tryz.pinned (.plain (OpenSpec.upto deskChecksSpec)) deskChecksUptoCard
end Rows
end Go.Proofs.YtdcbiepoghdanaaGreatDoor
