/-
  DERIVED. GIVEN WITH THE SEED: THE CARDS: each row of YtpmlgnbbkpplhaaDoorRows.lean that lists a variable, with what it lists TIED to the program's text (the seventh form; the later family's looks); each row that meets fmt, with fmt's text TOLD by the authors' own Lean function (tested against real Go, not proved from fmt's source: count such statements apart). THE CARD IS WHAT COUNTS. Prove the row's statement (the work); the ties are given (YtpmlgnbbkpplhaaDoorTie.lean); close each card by the builder's one call (the guide's Derived/Test/ToyasCard.lean, 'card_holds'). Laid BY PROGRAM, IN A SANDBOX (cutbox-door.mjs). By AI agents, Wed Nov 11 2026. No macro, syntax, notation, axiom, sorry.
-/
import Derived.Test.YtpmlgnbbkpplhaaDoorRows
import GoSem.ClaimSeven
namespace Go.Proofs.YtpmlgnbbkpplhaaDoor
namespace Rows

/-- THE TIED CARD OF 'inqkeep2.FindPlain'. -/
def findPlainCard : Claim7 := { stood := { row := findPlainRow, standIns := [], harness := (true, "117fab6e3dba88c889cb8ed841d45f9f38ab04ffeab0d40ae6db6d0ba4d78615"), looks := true }, kinds := [], alts := [], laidByText := true, laidKinds := [.data, .pinned], laidTests := true, laidLooks := .later }
def FindPlainCardSaid : Prop := Claim7.holds Tryd.pinned (.plain (OpenSpec.ofChange findPlainSpec)) findPlainCard

/-- THE TIED CARD OF 'inqkeep2.ReleaseOrder'. -/
def releaseOrderCard : Claim7 := { stood := { row := releaseOrderRow, standIns := [], harness := (true, "117fab6e3dba88c889cb8ed841d45f9f38ab04ffeab0d40ae6db6d0ba4d78615"), looks := true }, kinds := [], alts := [], laidByText := true, laidKinds := [.data, .data, .data, .data, .sentinel, .sentinel, .pinned], laidTests := true, laidLooks := .later }
def ReleaseOrderCardSaid : Prop := Claim7.holds Tryd.pinned (.plain (OpenSpec.ofChange releaseOrderSpec)) releaseOrderCard

/-- THE TIED CARD OF 'inqlaw2.EventSeals'. -/
def eventSealsCard : Claim7 := { stood := { row := eventSealsRow, standIns := [], harness := (true, "117fab6e3dba88c889cb8ed841d45f9f38ab04ffeab0d40ae6db6d0ba4d78615"), looks := true }, kinds := [], alts := [], laidByText := true, laidKinds := [.data, .data, .data, .data, .sentinel, .sentinel, .pinned], laidTests := true, laidLooks := .later }
def EventSealsCardSaid : Prop := Claim7.holds Tryd.pinned (.plain (OpenSpec.ofChange eventSealsSpec)) eventSealsCard

/-- THE SECOND FORM's CARD OF 'inqkeep2.FindPlain'. -/
def findPlainUptoCard : Claim7 := { stood := { row := findPlainUptoRow, standIns := [], harness := (true, "117fab6e3dba88c889cb8ed841d45f9f38ab04ffeab0d40ae6db6d0ba4d78615"), looks := true }, kinds := [], alts := [], laidByText := true, laidKinds := [.data, .pinned], laidTests := true, laidLooks := .later }
def FindPlainUptoCardSaid : Prop := Claim7.holds Tryd.pinned (.plain (OpenSpec.upto findPlainSpec)) findPlainUptoCard

/-- THE SECOND FORM's CARD OF 'inqkeep2.ReleaseOrder'. -/
def releaseOrderUptoCard : Claim7 := { stood := { row := releaseOrderUptoRow, standIns := [], harness := (true, "117fab6e3dba88c889cb8ed841d45f9f38ab04ffeab0d40ae6db6d0ba4d78615"), looks := true }, kinds := [], alts := [], laidByText := true, laidKinds := [.data, .data, .data, .data, .sentinel, .sentinel, .pinned], laidTests := true, laidLooks := .later }
def ReleaseOrderUptoCardSaid : Prop := Claim7.holds Tryd.pinned (.plain (OpenSpec.upto releaseOrderSpec)) releaseOrderUptoCard

/-- THE SECOND FORM's CARD OF 'inqlaw2.EventSeals'. -/
def eventSealsUptoCard : Claim7 := { stood := { row := eventSealsUptoRow, standIns := [], harness := (true, "117fab6e3dba88c889cb8ed841d45f9f38ab04ffeab0d40ae6db6d0ba4d78615"), looks := true }, kinds := [], alts := [], laidByText := true, laidKinds := [.data, .data, .data, .data, .sentinel, .sentinel, .pinned], laidTests := true, laidLooks := .later }
def EventSealsUptoCardSaid : Prop := Claim7.holds Tryd.pinned (.plain (OpenSpec.upto eventSealsSpec)) eventSealsUptoCard
end Rows
end Go.Proofs.YtpmlgnbbkpplhaaDoor
