/-
  DERIVED. GIVEN WITH THE SEED: THE CARDS: each row of YtfmbgaaonfgenaaDoorRows.lean that lists a variable, with what it lists TIED to the program's text (the seventh form; the later family's looks); each row that meets fmt, with fmt's text TOLD by the authors' own Lean function (tested against real Go, not proved from fmt's source: count such statements apart). THE CARD IS WHAT COUNTS. Prove the row's statement (the work); the ties are given (YtfmbgaaonfgenaaDoorTie.lean); close each card by the builder's one call (the guide's Derived/Test/ToyasCard.lean, 'card_holds'). Laid BY PROGRAM, IN A SANDBOX (cutbox-door.mjs). By AI agents, Wed Nov 11 2026. No macro, syntax, notation, axiom, sorry.
-/
import Derived.Test.YtfmbgaaonfgenaaDoorRows
import GoSem.ClaimSeven
namespace Go.Proofs.YtfmbgaaonfgenaaDoor
namespace Rows

/-- THE TIED CARD OF 'inqkeep2.FindPlain'. -/
def findPlainCard : Claim7 := { stood := { row := findPlainRow, standIns := [], harness := (true, "4eaad8733297510bfd2cf54fa1d8c10c65c7b2071bb2b88cba53bea052f698ec"), looks := false }, kinds := [], alts := [], laidByText := true, laidKinds := [.data, .pinned], laidTests := true, laidLooks := .later }
def FindPlainCardSaid : Prop := Claim7.holds Tryd.pinned (.plain (OpenSpec.ofChange findPlainSpec)) findPlainCard

/-- THE SECOND FORM's CARD OF 'inqkeep2.FindPlain'. -/
def findPlainUptoCard : Claim7 := { stood := { row := findPlainUptoRow, standIns := [], harness := (true, "4eaad8733297510bfd2cf54fa1d8c10c65c7b2071bb2b88cba53bea052f698ec"), looks := false }, kinds := [], alts := [], laidByText := true, laidKinds := [.data, .pinned], laidTests := true, laidLooks := .later }
def FindPlainUptoCardSaid : Prop := Claim7.holds Tryd.pinned (.plain (OpenSpec.upto findPlainSpec)) findPlainUptoCard
end Rows
end Go.Proofs.YtfmbgaaonfgenaaDoor
