/-
  DERIVED. GIVEN WITH THE SEED: THE CARDS: each row of YtekbcbjimajnfaaGreatDoorRows.lean that lists a variable, with what it lists TIED to the program's text (the seventh form; the later family's looks); each row that meets fmt, with fmt's text TOLD by the authors' own Lean function (tested against real Go, not proved from fmt's source: count such statements apart). THE CARD IS WHAT COUNTS. Prove the row's statement (the work); the ties are given (YtekbcbjimajnfaaGreatDoorTie.lean); close each card by the builder's one call (the guide's Derived/Test/ToyasCard.lean, 'card_holds'). Laid BY PROGRAM, IN A SANDBOX (cutbox-door.mjs). By AI agents, Wed Nov 11 2026. No macro, syntax, notation, axiom, sorry.
-/
import Derived.Test.YtekbcbjimajnfaaGreatDoorRows
import GoSem.ClaimSeven
namespace Go.Proofs.YtekbcbjimajnfaaGreatDoor
namespace Rows

/-- THE TIED CARD OF 'inqlaw2.FindIndexes'. -/
def findIndexesCard : Claim7 := { stood := { row := findIndexesRow, standIns := [], harness := (true, "1dff2ca11614da0f8b648408774e5895367c5929a76b31c0649bf5841393f32f"), looks := false }, kinds := [], alts := [], laidByText := true, laidKinds := [.data, .pinned], laidTests := true, laidLooks := .later }
def FindIndexesCardSaid : Prop := Claim7.holds Tryz.pinned (.plain (OpenSpec.ofChange findIndexesSpec)) findIndexesCard

/-- THE TIED CARD OF 'inqkeep2.FindSums'. -/
def findSumsCard : Claim7 := { stood := { row := findSumsRow, standIns := [], harness := (true, "1dff2ca11614da0f8b648408774e5895367c5929a76b31c0649bf5841393f32f"), looks := false }, kinds := [], alts := [], laidByText := true, laidKinds := [.data, .pinned], laidTests := true, laidLooks := .later }
def FindSumsCardSaid : Prop := Claim7.holds Tryz.pinned (.plain (OpenSpec.ofChange findSumsSpec)) findSumsCard

/-- THE SECOND FORM's CARD OF 'inqlaw2.FindIndexes'. -/
def findIndexesUptoCard : Claim7 := { stood := { row := findIndexesUptoRow, standIns := [], harness := (true, "1dff2ca11614da0f8b648408774e5895367c5929a76b31c0649bf5841393f32f"), looks := false }, kinds := [], alts := [], laidByText := true, laidKinds := [.data, .pinned], laidTests := true, laidLooks := .later }
def FindIndexesUptoCardSaid : Prop := Claim7.holds Tryz.pinned (.plain (OpenSpec.upto findIndexesSpec)) findIndexesUptoCard

/-- THE SECOND FORM's CARD OF 'inqkeep2.FindSums'. -/
def findSumsUptoCard : Claim7 := { stood := { row := findSumsUptoRow, standIns := [], harness := (true, "1dff2ca11614da0f8b648408774e5895367c5929a76b31c0649bf5841393f32f"), looks := false }, kinds := [], alts := [], laidByText := true, laidKinds := [.data, .pinned], laidTests := true, laidLooks := .later }
def FindSumsUptoCardSaid : Prop := Claim7.holds Tryz.pinned (.plain (OpenSpec.upto findSumsSpec)) findSumsUptoCard
end Rows
end Go.Proofs.YtekbcbjimajnfaaGreatDoor
