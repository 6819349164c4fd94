/-
  DERIVED. GIVEN WITH THE SEED: THE CARDS: each row of YtpmlgnbbkpplhaaGreatDoorRows.lean that lists a variable, with what it lists TIED to the program's text (the seventh form; the later family's looks); each row that meets fmt, with fmt's text TOLD by the authors' own Lean function (tested against real Go, not proved from fmt's source: count such statements apart). THE CARD IS WHAT COUNTS. Prove the row's statement (the work); the ties are given (YtpmlgnbbkpplhaaGreatDoorTie.lean); close each card by the builder's one call (the guide's Derived/Test/ToyasCard.lean, 'card_holds'). Laid BY PROGRAM, IN A SANDBOX (cutbox-door.mjs). By AI agents, Wed Nov 11 2026. No macro, syntax, notation, axiom, sorry.
-/
import Derived.Test.YtpmlgnbbkpplhaaGreatDoorRows
import GoSem.ClaimSeven
namespace Go.Proofs.YtpmlgnbbkpplhaaGreatDoor
namespace Rows

/-- THE TIED CARD OF 'inqlaw2.FindHolds'. -/
def findHoldsCard : Claim7 := { stood := { row := findHoldsRow, standIns := [], harness := (true, "bee9c9ad7bc8c012016d9c4710dfe038bea83c432b0e3d308d674d9e33afe7e8"), looks := true }, kinds := [], alts := [], laidByText := true, laidKinds := [.data, .pinned], laidTests := true, laidLooks := .later }
def FindHoldsCardSaid : Prop := Claim7.holds Tryz.pinned (.plain (OpenSpec.ofChange findHoldsSpec)) findHoldsCard

/-- THE TIED CARD OF 'inqlaw2.ReleaseVersions'. -/
def releaseVersionsCard : Claim7 := { stood := { row := releaseVersionsRow, standIns := [], harness := (true, "bee9c9ad7bc8c012016d9c4710dfe038bea83c432b0e3d308d674d9e33afe7e8"), looks := true }, kinds := [], alts := [], laidByText := true, laidKinds := [.data, .data, .data, .data, .sentinel, .sentinel, .pinned], laidTests := true, laidLooks := .later }
def ReleaseVersionsCardSaid : Prop := Claim7.holds Tryz.pinned (.plain (OpenSpec.ofChange releaseVersionsSpec)) releaseVersionsCard

/-- THE TIED CARD OF 'inqlaw2.ReleaseSeen'. -/
def releaseSeenCard : Claim7 := { stood := { row := releaseSeenRow, standIns := [], harness := (true, "bee9c9ad7bc8c012016d9c4710dfe038bea83c432b0e3d308d674d9e33afe7e8"), looks := true }, kinds := [], alts := [], laidByText := true, laidKinds := [.data, .data, .data, .data, .sentinel, .sentinel, .pinned], laidTests := true, laidLooks := .later }
def ReleaseSeenCardSaid : Prop := Claim7.holds Tryz.pinned (.plain (OpenSpec.ofChange releaseSeenSpec)) releaseSeenCard

/-- THE TIED CARD OF 'inqkeep2.ReleaseKept'. -/
def releaseKeptCard : Claim7 := { stood := { row := releaseKeptRow, standIns := [], harness := (true, "bee9c9ad7bc8c012016d9c4710dfe038bea83c432b0e3d308d674d9e33afe7e8"), looks := true }, kinds := [], alts := [], laidByText := true, laidKinds := [.data, .data, .data, .data, .sentinel, .sentinel, .pinned], laidTests := true, laidLooks := .later }
def ReleaseKeptCardSaid : Prop := Claim7.holds Tryz.pinned (.plain (OpenSpec.ofChange releaseKeptSpec)) releaseKeptCard

/-- THE TIED CARD OF 'inqkeep2.ReleaseAfter'. -/
def releaseAfterCard : Claim7 := { stood := { row := releaseAfterRow, standIns := [], harness := (true, "bee9c9ad7bc8c012016d9c4710dfe038bea83c432b0e3d308d674d9e33afe7e8"), looks := true }, kinds := [], alts := [], laidByText := true, laidKinds := [.data, .data, .data, .data, .sentinel, .sentinel, .pinned], laidTests := true, laidLooks := .later }
def ReleaseAfterCardSaid : Prop := Claim7.holds Tryz.pinned (.plain (OpenSpec.ofChange releaseAfterSpec)) releaseAfterCard

/-- THE TIED CARD OF 'inqlaw2.ReleaseLists'. -/
def releaseListsCard : Claim7 := { stood := { row := releaseListsRow, standIns := [], harness := (true, "bee9c9ad7bc8c012016d9c4710dfe038bea83c432b0e3d308d674d9e33afe7e8"), looks := true }, kinds := [], alts := [], laidByText := true, laidKinds := [.data, .data, .data, .data, .sentinel, .sentinel, .pinned], laidTests := true, laidLooks := .later }
def ReleaseListsCardSaid : Prop := Claim7.holds Tryz.pinned (.plain (OpenSpec.ofChange releaseListsSpec)) releaseListsCard

/-- THE TIED CARD OF 'inqlaw2.ReleaseSuspects'. -/
def releaseSuspectsCard : Claim7 := { stood := { row := releaseSuspectsRow, standIns := [], harness := (true, "bee9c9ad7bc8c012016d9c4710dfe038bea83c432b0e3d308d674d9e33afe7e8"), looks := true }, kinds := [], alts := [], laidByText := true, laidKinds := [.data, .data, .data, .data, .sentinel, .sentinel, .pinned], laidTests := true, laidLooks := .later }
def ReleaseSuspectsCardSaid : Prop := Claim7.holds Tryz.pinned (.plain (OpenSpec.ofChange releaseSuspectsSpec)) releaseSuspectsCard

/-- THE TIED CARD OF 'inqlaw2.ReleaseHealth'. -/
def releaseHealthCard : Claim7 := { stood := { row := releaseHealthRow, standIns := [], harness := (true, "bee9c9ad7bc8c012016d9c4710dfe038bea83c432b0e3d308d674d9e33afe7e8"), looks := true }, kinds := [], alts := [], laidByText := true, laidKinds := [.data, .data, .data, .data, .sentinel, .sentinel, .pinned], laidTests := true, laidLooks := .later }
def ReleaseHealthCardSaid : Prop := Claim7.holds Tryz.pinned (.plain (OpenSpec.ofChange releaseHealthSpec)) releaseHealthCard

/-- THE SECOND FORM's CARD OF 'inqlaw2.FindHolds'. -/
def findHoldsUptoCard : Claim7 := { stood := { row := findHoldsUptoRow, standIns := [], harness := (true, "bee9c9ad7bc8c012016d9c4710dfe038bea83c432b0e3d308d674d9e33afe7e8"), looks := true }, kinds := [], alts := [], laidByText := true, laidKinds := [.data, .pinned], laidTests := true, laidLooks := .later }
def FindHoldsUptoCardSaid : Prop := Claim7.holds Tryz.pinned (.plain (OpenSpec.upto findHoldsSpec)) findHoldsUptoCard

/-- THE SECOND FORM's CARD OF 'inqlaw2.ReleaseVersions'. -/
def releaseVersionsUptoCard : Claim7 := { stood := { row := releaseVersionsUptoRow, standIns := [], harness := (true, "bee9c9ad7bc8c012016d9c4710dfe038bea83c432b0e3d308d674d9e33afe7e8"), looks := true }, kinds := [], alts := [], laidByText := true, laidKinds := [.data, .data, .data, .data, .sentinel, .sentinel, .pinned], laidTests := true, laidLooks := .later }
def ReleaseVersionsUptoCardSaid : Prop := Claim7.holds Tryz.pinned (.plain (OpenSpec.upto releaseVersionsSpec)) releaseVersionsUptoCard

/-- THE SECOND FORM's CARD OF 'inqlaw2.ReleaseSeen'. -/
def releaseSeenUptoCard : Claim7 := { stood := { row := releaseSeenUptoRow, standIns := [], harness := (true, "bee9c9ad7bc8c012016d9c4710dfe038bea83c432b0e3d308d674d9e33afe7e8"), looks := true }, kinds := [], alts := [], laidByText := true, laidKinds := [.data, .data, .data, .data, .sentinel, .sentinel, .pinned], laidTests := true, laidLooks := .later }
def ReleaseSeenUptoCardSaid : Prop := Claim7.holds Tryz.pinned (.plain (OpenSpec.upto releaseSeenSpec)) releaseSeenUptoCard

/-- THE SECOND FORM's CARD OF 'inqkeep2.ReleaseKept'. -/
def releaseKeptUptoCard : Claim7 := { stood := { row := releaseKeptUptoRow, standIns := [], harness := (true, "bee9c9ad7bc8c012016d9c4710dfe038bea83c432b0e3d308d674d9e33afe7e8"), looks := true }, kinds := [], alts := [], laidByText := true, laidKinds := [.data, .data, .data, .data, .sentinel, .sentinel, .pinned], laidTests := true, laidLooks := .later }
def ReleaseKeptUptoCardSaid : Prop := Claim7.holds Tryz.pinned (.plain (OpenSpec.upto releaseKeptSpec)) releaseKeptUptoCard

/-- THE SECOND FORM's CARD OF 'inqkeep2.ReleaseAfter'. -/
def releaseAfterUptoCard : Claim7 := { stood := { row := releaseAfterUptoRow, standIns := [], harness := (true, "bee9c9ad7bc8c012016d9c4710dfe038bea83c432b0e3d308d674d9e33afe7e8"), looks := true }, kinds := [], alts := [], laidByText := true, laidKinds := [.data, .data, .data, .data, .sentinel, .sentinel, .pinned], laidTests := true, laidLooks := .later }
def ReleaseAfterUptoCardSaid : Prop := Claim7.holds Tryz.pinned (.plain (OpenSpec.upto releaseAfterSpec)) releaseAfterUptoCard

/-- THE SECOND FORM's CARD OF 'inqlaw2.ReleaseLists'. -/
def releaseListsUptoCard : Claim7 := { stood := { row := releaseListsUptoRow, standIns := [], harness := (true, "bee9c9ad7bc8c012016d9c4710dfe038bea83c432b0e3d308d674d9e33afe7e8"), looks := true }, kinds := [], alts := [], laidByText := true, laidKinds := [.data, .data, .data, .data, .sentinel, .sentinel, .pinned], laidTests := true, laidLooks := .later }
def ReleaseListsUptoCardSaid : Prop := Claim7.holds Tryz.pinned (.plain (OpenSpec.upto releaseListsSpec)) releaseListsUptoCard

/-- THE SECOND FORM's CARD OF 'inqlaw2.ReleaseSuspects'. -/
def releaseSuspectsUptoCard : Claim7 := { stood := { row := releaseSuspectsUptoRow, standIns := [], harness := (true, "bee9c9ad7bc8c012016d9c4710dfe038bea83c432b0e3d308d674d9e33afe7e8"), looks := true }, kinds := [], alts := [], laidByText := true, laidKinds := [.data, .data, .data, .data, .sentinel, .sentinel, .pinned], laidTests := true, laidLooks := .later }
def ReleaseSuspectsUptoCardSaid : Prop := Claim7.holds Tryz.pinned (.plain (OpenSpec.upto releaseSuspectsSpec)) releaseSuspectsUptoCard

/-- THE SECOND FORM's CARD OF 'inqlaw2.ReleaseHealth'. -/
def releaseHealthUptoCard : Claim7 := { stood := { row := releaseHealthUptoRow, standIns := [], harness := (true, "bee9c9ad7bc8c012016d9c4710dfe038bea83c432b0e3d308d674d9e33afe7e8"), looks := true }, kinds := [], alts := [], laidByText := true, laidKinds := [.data, .data, .data, .data, .sentinel, .sentinel, .pinned], laidTests := true, laidLooks := .later }
def ReleaseHealthUptoCardSaid : Prop := Claim7.holds Tryz.pinned (.plain (OpenSpec.upto releaseHealthSpec)) releaseHealthUptoCard
end Rows
end Go.Proofs.YtpmlgnbbkpplhaaGreatDoor
