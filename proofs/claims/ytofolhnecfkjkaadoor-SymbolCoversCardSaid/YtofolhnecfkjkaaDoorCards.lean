/-
  DERIVED. GIVEN WITH THE SEED: THE CARDS: each row of YtofolhnecfkjkaaDoorRows.lean that lists a variable, with what it lists TIED to the program's text (the seventh form; the later family's looks); each row that meets fmt, with fmt's text TOLD by the authors' own Lean function (tested against real Go, not proved from fmt's source: count such statements apart). THE CARD IS WHAT COUNTS. Prove the row's statement (the work); the ties are given (YtofolhnecfkjkaaDoorTie.lean); close each card by the builder's one call (the guide's Derived/Test/ToyasCard.lean, 'card_holds'). Laid BY PROGRAM, IN A SANDBOX (cutbox-door.mjs). By AI agents, Wed Nov 11 2026. No macro, syntax, notation, axiom, sorry.
-/
import Derived.Test.YtofolhnecfkjkaaDoorRows
import GoSem.ClaimSeven
namespace Go.Proofs.YtofolhnecfkjkaaDoor
namespace Rows

/-- THE TIED CARD OF 'inqlaw2.SymbolChecks'. -/
def symbolChecksCard : Claim7 := { stood := { row := symbolChecksRow, standIns := [], harness := (true, "6c5a4dff17cdca6e29a442a783e30e0772d9116c9ab64e69a444ef287ffc8f84"), looks := false }, kinds := [], alts := [], laidByText := true, laidKinds := [.data, .pinned], laidTests := true, laidLooks := .later }
def SymbolChecksCardSaid : Prop := Claim7.holds Tryd.pinned (.plain (OpenSpec.ofChange symbolChecksSpec)) symbolChecksCard

/-- THE TIED CARD OF 'inqkeep2.SymbolLines'. -/
def symbolLinesCard : Claim7 := { stood := { row := symbolLinesRow, standIns := [], harness := (true, "6c5a4dff17cdca6e29a442a783e30e0772d9116c9ab64e69a444ef287ffc8f84"), looks := false }, kinds := [], alts := [], laidByText := true, laidKinds := [.data, .pinned], laidTests := true, laidLooks := .later }
def SymbolLinesCardSaid : Prop := Claim7.holds Tryd.pinned (.plain (OpenSpec.ofChange symbolLinesSpec)) symbolLinesCard

/-- THE TIED CARD OF 'inqlaw2.SymbolBytes'. -/
def symbolBytesCard : Claim7 := { stood := { row := symbolBytesRow, standIns := [], harness := (true, "6c5a4dff17cdca6e29a442a783e30e0772d9116c9ab64e69a444ef287ffc8f84"), looks := false }, kinds := [], alts := [], laidByText := true, laidKinds := [.data, .pinned], laidTests := true, laidLooks := .later }
def SymbolBytesCardSaid : Prop := Claim7.holds Tryd.pinned (.plain (OpenSpec.ofChange symbolBytesSpec)) symbolBytesCard

/-- THE TIED CARD OF 'inqlaw2.SymbolResolves'. -/
def symbolResolvesCard : Claim7 := { stood := { row := symbolResolvesRow, standIns := [], harness := (true, "6c5a4dff17cdca6e29a442a783e30e0772d9116c9ab64e69a444ef287ffc8f84"), looks := false }, kinds := [], alts := [], laidByText := true, laidKinds := [.data, .pinned], laidTests := true, laidLooks := .later }
def SymbolResolvesCardSaid : Prop := Claim7.holds Tryd.pinned (.plain (OpenSpec.ofChange symbolResolvesSpec)) symbolResolvesCard

/-- THE TIED CARD OF 'inqkeep2.SymbolResolved'. -/
def symbolResolvedCard : Claim7 := { stood := { row := symbolResolvedRow, standIns := [], harness := (true, "6c5a4dff17cdca6e29a442a783e30e0772d9116c9ab64e69a444ef287ffc8f84"), looks := false }, kinds := [], alts := [], laidByText := true, laidKinds := [.data, .pinned], laidTests := true, laidLooks := .later }
def SymbolResolvedCardSaid : Prop := Claim7.holds Tryd.pinned (.plain (OpenSpec.ofChange symbolResolvedSpec)) symbolResolvedCard

/-- THE TIED CARD OF 'inqkeep2.SymbolCovers'. -/
def symbolCoversCard : Claim7 := { stood := { row := symbolCoversRow, standIns := [], harness := (true, "6c5a4dff17cdca6e29a442a783e30e0772d9116c9ab64e69a444ef287ffc8f84"), looks := false }, kinds := [], alts := [], laidByText := true, laidKinds := [.data, .pinned], laidTests := true, laidLooks := .later }
def SymbolCoversCardSaid : Prop := Claim7.holds Tryd.pinned (.plain (OpenSpec.ofChange symbolCoversSpec)) symbolCoversCard

/-- THE SECOND FORM's CARD OF 'inqlaw2.SymbolChecks'. -/
def symbolChecksUptoCard : Claim7 := { stood := { row := symbolChecksUptoRow, standIns := [], harness := (true, "6c5a4dff17cdca6e29a442a783e30e0772d9116c9ab64e69a444ef287ffc8f84"), looks := false }, kinds := [], alts := [], laidByText := true, laidKinds := [.data, .pinned], laidTests := true, laidLooks := .later }
def SymbolChecksUptoCardSaid : Prop := Claim7.holds Tryd.pinned (.plain (OpenSpec.upto symbolChecksSpec)) symbolChecksUptoCard

/-- THE SECOND FORM's CARD OF 'inqkeep2.SymbolLines'. -/
def symbolLinesUptoCard : Claim7 := { stood := { row := symbolLinesUptoRow, standIns := [], harness := (true, "6c5a4dff17cdca6e29a442a783e30e0772d9116c9ab64e69a444ef287ffc8f84"), looks := false }, kinds := [], alts := [], laidByText := true, laidKinds := [.data, .pinned], laidTests := true, laidLooks := .later }
def SymbolLinesUptoCardSaid : Prop := Claim7.holds Tryd.pinned (.plain (OpenSpec.upto symbolLinesSpec)) symbolLinesUptoCard

/-- THE SECOND FORM's CARD OF 'inqlaw2.SymbolBytes'. -/
def symbolBytesUptoCard : Claim7 := { stood := { row := symbolBytesUptoRow, standIns := [], harness := (true, "6c5a4dff17cdca6e29a442a783e30e0772d9116c9ab64e69a444ef287ffc8f84"), looks := false }, kinds := [], alts := [], laidByText := true, laidKinds := [.data, .pinned], laidTests := true, laidLooks := .later }
def SymbolBytesUptoCardSaid : Prop := Claim7.holds Tryd.pinned (.plain (OpenSpec.upto symbolBytesSpec)) symbolBytesUptoCard

/-- THE SECOND FORM's CARD OF 'inqlaw2.SymbolResolves'. -/
def symbolResolvesUptoCard : Claim7 := { stood := { row := symbolResolvesUptoRow, standIns := [], harness := (true, "6c5a4dff17cdca6e29a442a783e30e0772d9116c9ab64e69a444ef287ffc8f84"), looks := false }, kinds := [], alts := [], laidByText := true, laidKinds := [.data, .pinned], laidTests := true, laidLooks := .later }
def SymbolResolvesUptoCardSaid : Prop := Claim7.holds Tryd.pinned (.plain (OpenSpec.upto symbolResolvesSpec)) symbolResolvesUptoCard

/-- THE SECOND FORM's CARD OF 'inqkeep2.SymbolResolved'. -/
def symbolResolvedUptoCard : Claim7 := { stood := { row := symbolResolvedUptoRow, standIns := [], harness := (true, "6c5a4dff17cdca6e29a442a783e30e0772d9116c9ab64e69a444ef287ffc8f84"), looks := false }, kinds := [], alts := [], laidByText := true, laidKinds := [.data, .pinned], laidTests := true, laidLooks := .later }
def SymbolResolvedUptoCardSaid : Prop := Claim7.holds Tryd.pinned (.plain (OpenSpec.upto symbolResolvedSpec)) symbolResolvedUptoCard

/-- THE SECOND FORM's CARD OF 'inqkeep2.SymbolCovers'. -/
def symbolCoversUptoCard : Claim7 := { stood := { row := symbolCoversUptoRow, standIns := [], harness := (true, "6c5a4dff17cdca6e29a442a783e30e0772d9116c9ab64e69a444ef287ffc8f84"), looks := false }, kinds := [], alts := [], laidByText := true, laidKinds := [.data, .pinned], laidTests := true, laidLooks := .later }
def SymbolCoversUptoCardSaid : Prop := Claim7.holds Tryd.pinned (.plain (OpenSpec.upto symbolCoversSpec)) symbolCoversUptoCard
end Rows
end Go.Proofs.YtofolhnecfkjkaaDoor
