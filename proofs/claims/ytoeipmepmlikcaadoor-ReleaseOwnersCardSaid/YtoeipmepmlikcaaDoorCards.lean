/-
  DERIVED. GIVEN WITH THE SEED: THE CARDS: each row of YtoeipmepmlikcaaDoorRows.lean that lists a variable, with what it lists TIED to the program's text (the seventh form; the later family's looks); each row that meets fmt, with fmt's text TOLD by the authors' own Lean function (tested against real Go, not proved from fmt's source: count such statements apart). THE CARD IS WHAT COUNTS. Prove the row's statement (the work); the ties are given (YtoeipmepmlikcaaDoorTie.lean); close each card by the builder's one call (the guide's Derived/Test/ToyasCard.lean, 'card_holds'). Laid BY PROGRAM, IN A SANDBOX (cutbox-door.mjs). By AI agents, Wed Nov 11 2026. No macro, syntax, notation, axiom, sorry.
-/
import Derived.Test.YtoeipmepmlikcaaDoorRows
import GoSem.ClaimSeven
namespace Go.Proofs.YtoeipmepmlikcaaDoor
namespace Rows

/-- THE TIED CARD OF 'inqlaw2.ReleaseOwners'. -/
def releaseOwnersCard : Claim7 := { stood := { row := releaseOwnersRow, standIns := [], harness := (true, "0a0a0fbfa5cd69b175c27178b8e71a69ec240de2cddf9878db1048836a31fdba"), looks := true }, kinds := [], alts := [], laidByText := true, laidKinds := [.data, .pinned], laidTests := true, laidLooks := .later }
def ReleaseOwnersCardSaid : Prop := Claim7.holds Tryd.pinned (.plain (OpenSpec.ofChange releaseOwnersSpec)) releaseOwnersCard

/-- THE TIED CARD OF 'inqkeep2.FindPlain'. -/
def findPlainCard : Claim7 := { stood := { row := findPlainRow, standIns := [], harness := (true, "0a0a0fbfa5cd69b175c27178b8e71a69ec240de2cddf9878db1048836a31fdba"), looks := true }, kinds := [], alts := [], laidByText := true, laidKinds := [.data, .pinned], laidTests := true, laidLooks := .later }
def FindPlainCardSaid : Prop := Claim7.holds Tryd.pinned (.plain (OpenSpec.ofChange findPlainSpec)) findPlainCard

/-- THE TIED CARD OF 'inqlaw2.EventChecks'. -/
def eventChecksCard : Claim7 := { stood := { row := eventChecksRow, standIns := [], harness := (true, "0a0a0fbfa5cd69b175c27178b8e71a69ec240de2cddf9878db1048836a31fdba"), looks := true }, kinds := [], alts := [], laidByText := true, laidKinds := [.data, .data, .data, .data, .pinned], laidTests := true, laidLooks := .later }
def EventChecksCardSaid : Prop := Claim7.holds Tryd.pinned (.plain (OpenSpec.ofChange eventChecksSpec)) eventChecksCard

/-- THE TIED CARD OF 'inqtop.TopLimited'. -/
def topLimitedCard : Claim7 := { stood := { row := topLimitedRow, standIns := [], harness := (true, "0a0a0fbfa5cd69b175c27178b8e71a69ec240de2cddf9878db1048836a31fdba"), looks := true }, kinds := [], alts := [], laidByText := true, laidKinds := [.data, .data, .data, .data, .pinned], laidTests := true, laidLooks := .later }
def TopLimitedCardSaid : Prop := Claim7.holds Tryd.pinned (.plain (OpenSpec.ofChange topLimitedSpec)) topLimitedCard

/-- THE TIED CARD OF 'inqkeep2.EventFitted'. -/
def eventFittedCard : Claim7 := { stood := { row := eventFittedRow, standIns := [], harness := (true, "0a0a0fbfa5cd69b175c27178b8e71a69ec240de2cddf9878db1048836a31fdba"), looks := true }, kinds := [], alts := [], laidByText := true, laidKinds := [.data, .data, .data, .data, .pinned], laidTests := true, laidLooks := .later }
def EventFittedCardSaid : Prop := Claim7.holds Tryd.pinned (.plain (OpenSpec.ofChange eventFittedSpec)) eventFittedCard

/-- THE TIED CARD OF 'inqkeep2.EventTimeline'. -/
def eventTimelineCard : Claim7 := { stood := { row := eventTimelineRow, standIns := [], harness := (true, "0a0a0fbfa5cd69b175c27178b8e71a69ec240de2cddf9878db1048836a31fdba"), looks := true }, kinds := [], alts := [], laidByText := true, laidKinds := [.data, .data, .data, .data, .pinned], laidTests := true, laidLooks := .later }
def EventTimelineCardSaid : Prop := Claim7.holds Tryd.pinned (.plain (OpenSpec.ofChange eventTimelineSpec)) eventTimelineCard

/-- THE TIED CARD OF 'inqlaw2.EventFits'. -/
def eventFitsCard : Claim7 := { stood := { row := eventFitsRow, standIns := [], harness := (true, "0a0a0fbfa5cd69b175c27178b8e71a69ec240de2cddf9878db1048836a31fdba"), looks := true }, kinds := [], alts := [], laidByText := true, laidKinds := [.data, .pinned], laidTests := true, laidLooks := .later }
def EventFitsCardSaid : Prop := Claim7.holds Tryd.pinned (.plain (OpenSpec.ofChange eventFitsSpec)) eventFitsCard

/-- THE TIED CARD OF 'inqkeep2.ReleaseLast'. -/
def releaseLastCard : Claim7 := { stood := { row := releaseLastRow, standIns := [], harness := (true, "0a0a0fbfa5cd69b175c27178b8e71a69ec240de2cddf9878db1048836a31fdba"), looks := true }, kinds := [], alts := [], laidByText := true, laidKinds := [.data, .data, .data, .data, .sentinel, .sentinel, .pinned], laidTests := true, laidLooks := .later }
def ReleaseLastCardSaid : Prop := Claim7.holds Tryd.pinned (.plain (OpenSpec.ofChange releaseLastSpec)) releaseLastCard

/-- THE TIED CARD OF 'inqlaw2.EventSeals'. -/
def eventSealsCard : Claim7 := { stood := { row := eventSealsRow, standIns := [], harness := (true, "0a0a0fbfa5cd69b175c27178b8e71a69ec240de2cddf9878db1048836a31fdba"), looks := true }, kinds := [], alts := [], laidByText := true, laidKinds := [.data, .data, .data, .data, .sentinel, .sentinel, .pinned], laidTests := true, laidLooks := .later }
def EventSealsCardSaid : Prop := Claim7.holds Tryd.pinned (.plain (OpenSpec.ofChange eventSealsSpec)) eventSealsCard

/-- THE SECOND FORM's CARD OF 'inqlaw2.ReleaseOwners'. -/
def releaseOwnersUptoCard : Claim7 := { stood := { row := releaseOwnersUptoRow, standIns := [], harness := (true, "0a0a0fbfa5cd69b175c27178b8e71a69ec240de2cddf9878db1048836a31fdba"), looks := true }, kinds := [], alts := [], laidByText := true, laidKinds := [.data, .pinned], laidTests := true, laidLooks := .later }
def ReleaseOwnersUptoCardSaid : Prop := Claim7.holds Tryd.pinned (.plain (OpenSpec.upto releaseOwnersSpec)) releaseOwnersUptoCard

/-- THE SECOND FORM's CARD OF 'inqkeep2.FindPlain'. -/
def findPlainUptoCard : Claim7 := { stood := { row := findPlainUptoRow, standIns := [], harness := (true, "0a0a0fbfa5cd69b175c27178b8e71a69ec240de2cddf9878db1048836a31fdba"), looks := true }, kinds := [], alts := [], laidByText := true, laidKinds := [.data, .pinned], laidTests := true, laidLooks := .later }
def FindPlainUptoCardSaid : Prop := Claim7.holds Tryd.pinned (.plain (OpenSpec.upto findPlainSpec)) findPlainUptoCard

/-- THE SECOND FORM's CARD OF 'inqlaw2.EventChecks'. -/
def eventChecksUptoCard : Claim7 := { stood := { row := eventChecksUptoRow, standIns := [], harness := (true, "0a0a0fbfa5cd69b175c27178b8e71a69ec240de2cddf9878db1048836a31fdba"), looks := true }, kinds := [], alts := [], laidByText := true, laidKinds := [.data, .data, .data, .data, .pinned], laidTests := true, laidLooks := .later }
def EventChecksUptoCardSaid : Prop := Claim7.holds Tryd.pinned (.plain (OpenSpec.upto eventChecksSpec)) eventChecksUptoCard

/-- THE SECOND FORM's CARD OF 'inqtop.TopLimited'. -/
def topLimitedUptoCard : Claim7 := { stood := { row := topLimitedUptoRow, standIns := [], harness := (true, "0a0a0fbfa5cd69b175c27178b8e71a69ec240de2cddf9878db1048836a31fdba"), looks := true }, kinds := [], alts := [], laidByText := true, laidKinds := [.data, .data, .data, .data, .pinned], laidTests := true, laidLooks := .later }
def TopLimitedUptoCardSaid : Prop := Claim7.holds Tryd.pinned (.plain (OpenSpec.upto topLimitedSpec)) topLimitedUptoCard

/-- THE SECOND FORM's CARD OF 'inqkeep2.EventFitted'. -/
def eventFittedUptoCard : Claim7 := { stood := { row := eventFittedUptoRow, standIns := [], harness := (true, "0a0a0fbfa5cd69b175c27178b8e71a69ec240de2cddf9878db1048836a31fdba"), looks := true }, kinds := [], alts := [], laidByText := true, laidKinds := [.data, .data, .data, .data, .pinned], laidTests := true, laidLooks := .later }
def EventFittedUptoCardSaid : Prop := Claim7.holds Tryd.pinned (.plain (OpenSpec.upto eventFittedSpec)) eventFittedUptoCard

/-- THE SECOND FORM's CARD OF 'inqkeep2.EventTimeline'. -/
def eventTimelineUptoCard : Claim7 := { stood := { row := eventTimelineUptoRow, standIns := [], harness := (true, "0a0a0fbfa5cd69b175c27178b8e71a69ec240de2cddf9878db1048836a31fdba"), looks := true }, kinds := [], alts := [], laidByText := true, laidKinds := [.data, .data, .data, .data, .pinned], laidTests := true, laidLooks := .later }
def EventTimelineUptoCardSaid : Prop := Claim7.holds Tryd.pinned (.plain (OpenSpec.upto eventTimelineSpec)) eventTimelineUptoCard

/-- THE SECOND FORM's CARD OF 'inqlaw2.EventFits'. -/
def eventFitsUptoCard : Claim7 := { stood := { row := eventFitsUptoRow, standIns := [], harness := (true, "0a0a0fbfa5cd69b175c27178b8e71a69ec240de2cddf9878db1048836a31fdba"), looks := true }, kinds := [], alts := [], laidByText := true, laidKinds := [.data, .pinned], laidTests := true, laidLooks := .later }
def EventFitsUptoCardSaid : Prop := Claim7.holds Tryd.pinned (.plain (OpenSpec.upto eventFitsSpec)) eventFitsUptoCard

/-- THE SECOND FORM's CARD OF 'inqkeep2.ReleaseLast'. -/
def releaseLastUptoCard : Claim7 := { stood := { row := releaseLastUptoRow, standIns := [], harness := (true, "0a0a0fbfa5cd69b175c27178b8e71a69ec240de2cddf9878db1048836a31fdba"), looks := true }, kinds := [], alts := [], laidByText := true, laidKinds := [.data, .data, .data, .data, .sentinel, .sentinel, .pinned], laidTests := true, laidLooks := .later }
def ReleaseLastUptoCardSaid : Prop := Claim7.holds Tryd.pinned (.plain (OpenSpec.upto releaseLastSpec)) releaseLastUptoCard

/-- THE SECOND FORM's CARD OF 'inqlaw2.EventSeals'. -/
def eventSealsUptoCard : Claim7 := { stood := { row := eventSealsUptoRow, standIns := [], harness := (true, "0a0a0fbfa5cd69b175c27178b8e71a69ec240de2cddf9878db1048836a31fdba"), looks := true }, kinds := [], alts := [], laidByText := true, laidKinds := [.data, .data, .data, .data, .sentinel, .sentinel, .pinned], laidTests := true, laidLooks := .later }
def EventSealsUptoCardSaid : Prop := Claim7.holds Tryd.pinned (.plain (OpenSpec.upto eventSealsSpec)) eventSealsUptoCard
end Rows
end Go.Proofs.YtoeipmepmlikcaaDoor
