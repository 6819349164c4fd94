/-
  NARROWER THAN 'FOR EVERY INPUT', by the rows' own cells (each row's printed sentence says how): SymbolChecks: laid · SymbolLines: laid · SymbolBytes: laid · SymbolResolves: laid · SymbolResolved: laid · SymbolCovers: laid.
  DERIVED. THE GIVEN ROWS OF THIS SEAT. 6 by the template 'for every input the law returns true; each argument reads behind the call as it read before'; 0 by the template 'total and deterministic' (their statements: YtofolhnecfkjkaaDoorTotals.lean).
  GIVEN WITH THE SEED: the statements are not yours to turn. If you find one false, say at which input.
  Laid BY PROGRAM, IN A SANDBOX (cutbox-rows.mjs): the forced cells as the released guide's own fill.sh prints them over the translation 34be2c8fd21b8a77… (all of the seat's roots in one cut). By AI agents, Wed Nov 11 2026. No macro, syntax, notation, axiom, sorry.
-/
import Derived.Test.YtofolhnecfkjkaaDoorChecked
import GoSem.PinnedTables
import GoSem.Claim
import GoSem.ClaimJoined
import GoSem.ClaimMapViews
import Derived.JoinedTies
import Derived.KernelRfl
namespace Go.Proofs.YtofolhnecfkjkaaDoor
/- THE CELL 'sum', in the pinned program and in every row, IS THE sha256 OF THE DUMP (.gsa) THAT YtofolhnecfkjkaaDoorProg.lean LOADS. Nothing in Lean hashes anything: it is a label: what it is worth is what the hold of that sum in a sandbox is worth. -/
noncomputable def Tryd.pinned : Pinned := { name := "ytofolhnecfkjkaadoor", sum := "34be2c8fd21b8a778b6b804e1f80ae7359634136fd6c370917b7821bbc744192", checked := Tryd.checked }
namespace Rows
def none {H : Type} : Left H := { results := [], args := [] }

/- WHAT THE LISTED PACKAGE-LEVEL VARIABLES READ AS WHEN THE CALL BEGINS. Each datum BY PROGRAM (the guide's laid-datum.mjs) off the statement by which the dump's own 'gosem.cut.vars' lays the variable. In a bare row this is a premise. The card (YtofolhnecfkjkaaDoorCards.lean) ties it to the program's text. -/
def laid_unicode_utf8_acceptRanges {H : Type} : DataW H := .agg [.agg [.lit (.int .u8 128), .lit (.int .u8 191)], .agg [.lit (.int .u8 160), .lit (.int .u8 191)], .agg [.lit (.int .u8 128), .lit (.int .u8 159)], .agg [.lit (.int .u8 144), .lit (.int .u8 191)], .agg [.lit (.int .u8 128), .lit (.int .u8 143)], .agg [.lit (.int .u8 0), .lit (.int .u8 0)], .agg [.lit (.int .u8 0), .lit (.int .u8 0)], .agg [.lit (.int .u8 0), .lit (.int .u8 0)], .agg [.lit (.int .u8 0), .lit (.int .u8 0)], .agg [.lit (.int .u8 0), .lit (.int .u8 0)], .agg [.lit (.int .u8 0), .lit (.int .u8 0)], .agg [.lit (.int .u8 0), .lit (.int .u8 0)], .agg [.lit (.int .u8 0), .lit (.int .u8 0)], .agg [.lit (.int .u8 0), .lit (.int .u8 0)], .agg [.lit (.int .u8 0), .lit (.int .u8 0)], .agg [.lit (.int .u8 0), .lit (.int .u8 0)]]
/-- One of Go's own tables, pinned by name: the form's constant. -/
def laid_unicode_utf8_first : DataW Unit := Go.Pinned.utf8First

/-- 'inqlaw2.SymbolChecks': WHATEVER THE INPUT: true; the input reads as it did. -/
def symbolChecksSpec : ChangeSpec := { name := "symbolChecks", fn := fun _ => fun
  | [d1, d2, d3, d4] => { results := [.lit (.bool true)], args := [d1, d2, d3, d4] }
  | _ => none }
def symbolChecksRow : OpenClaim := { program := "ytofolhnecfkjkaadoor", sum := "34be2c8fd21b8a778b6b804e1f80ae7359634136fd6c370917b7821bbc744192", func := "inquest/inqlaw2.SymbolChecks", spec := "symbolChecks", inPlace := ["internal/bytealg.IndexByteString", "internal/bytealg.IndexString"], unfollowed := true, recurses := true, named := ["unicode/utf8.first", "unicode/utf8.acceptRanges", "internal/bytealg.MaxLen"], apart := false, laid := [("unicode/utf8.acceptRanges", laid_unicode_utf8_acceptRanges), ("unicode/utf8.first", laid_unicode_utf8_first)] }
def SymbolChecksSaid : Prop := symbolChecksRow.holds Tryd.pinned (OpenSpec.ofChange symbolChecksSpec)

/-- ITS FALSE NEIGHBOUR: 'it returns false'. Refute it at one input. -/
def symbolChecksWrong : ChangeSpec := { name := "symbolChecks", fn := fun _ => fun
  | [d1, d2, d3, d4] => { results := [.lit (.bool false)], args := [d1, d2, d3, d4] }
  | _ => none }
def SymbolChecksWrongFalsely : Prop := symbolChecksRow.holds Tryd.pinned (OpenSpec.ofChange symbolChecksWrong)

/-- 'inqkeep2.SymbolLines': WHATEVER THE INPUT: true; the input reads as it did. -/
def symbolLinesSpec : ChangeSpec := { name := "symbolLines", fn := fun _ => fun
  | [d1, d2, d3] => { results := [.lit (.bool true)], args := [d1, d2, d3] }
  | _ => none }
def symbolLinesRow : OpenClaim := { program := "ytofolhnecfkjkaadoor", sum := "34be2c8fd21b8a778b6b804e1f80ae7359634136fd6c370917b7821bbc744192", func := "inquest/inqkeep2.SymbolLines", spec := "symbolLines", inPlace := ["internal/bytealg.IndexByteString", "internal/bytealg.IndexString"], unfollowed := true, recurses := true, named := ["unicode/utf8.first", "unicode/utf8.acceptRanges", "internal/bytealg.MaxLen"], apart := false, laid := [("unicode/utf8.acceptRanges", laid_unicode_utf8_acceptRanges), ("unicode/utf8.first", laid_unicode_utf8_first)] }
def SymbolLinesSaid : Prop := symbolLinesRow.holds Tryd.pinned (OpenSpec.ofChange symbolLinesSpec)

/-- ITS FALSE NEIGHBOUR: 'it returns false'. Refute it at one input. -/
def symbolLinesWrong : ChangeSpec := { name := "symbolLines", fn := fun _ => fun
  | [d1, d2, d3] => { results := [.lit (.bool false)], args := [d1, d2, d3] }
  | _ => none }
def SymbolLinesWrongFalsely : Prop := symbolLinesRow.holds Tryd.pinned (OpenSpec.ofChange symbolLinesWrong)

/-- 'inqlaw2.SymbolBytes': WHATEVER THE INPUT: true; the input reads as it did. -/
def symbolBytesSpec : ChangeSpec := { name := "symbolBytes", fn := fun _ => fun
  | [d1, d2] => { results := [.lit (.bool true)], args := [d1, d2] }
  | _ => none }
def symbolBytesRow : OpenClaim := { program := "ytofolhnecfkjkaadoor", sum := "34be2c8fd21b8a778b6b804e1f80ae7359634136fd6c370917b7821bbc744192", func := "inquest/inqlaw2.SymbolBytes", spec := "symbolBytes", inPlace := ["internal/bytealg.IndexByteString", "internal/bytealg.IndexString", "internal/abi.NoEscape"], unfollowed := true, recurses := true, named := ["unicode/utf8.first", "unicode/utf8.acceptRanges", "internal/bytealg.MaxLen"], apart := false, laid := [("unicode/utf8.acceptRanges", laid_unicode_utf8_acceptRanges), ("unicode/utf8.first", laid_unicode_utf8_first)] }
def SymbolBytesSaid : Prop := symbolBytesRow.holds Tryd.pinned (OpenSpec.ofChange symbolBytesSpec)

/-- ITS FALSE NEIGHBOUR: 'it returns false'. Refute it at one input. -/
def symbolBytesWrong : ChangeSpec := { name := "symbolBytes", fn := fun _ => fun
  | [d1, d2] => { results := [.lit (.bool false)], args := [d1, d2] }
  | _ => none }
def SymbolBytesWrongFalsely : Prop := symbolBytesRow.holds Tryd.pinned (OpenSpec.ofChange symbolBytesWrong)

/-- 'inqlaw2.SymbolResolves': WHATEVER THE INPUT: true; the input reads as it did. -/
def symbolResolvesSpec : ChangeSpec := { name := "symbolResolves", fn := fun _ => fun
  | [d1, d2, d3] => { results := [.lit (.bool true)], args := [d1, d2, d3] }
  | _ => none }
def symbolResolvesRow : OpenClaim := { program := "ytofolhnecfkjkaadoor", sum := "34be2c8fd21b8a778b6b804e1f80ae7359634136fd6c370917b7821bbc744192", func := "inquest/inqlaw2.SymbolResolves", spec := "symbolResolves", inPlace := ["internal/bytealg.IndexByteString", "internal/bytealg.IndexString"], unfollowed := true, recurses := true, named := ["internal/bytealg.MaxLen", "unicode/utf8.first", "unicode/utf8.acceptRanges"], apart := false, laid := [("unicode/utf8.acceptRanges", laid_unicode_utf8_acceptRanges), ("unicode/utf8.first", laid_unicode_utf8_first)] }
def SymbolResolvesSaid : Prop := symbolResolvesRow.holds Tryd.pinned (OpenSpec.ofChange symbolResolvesSpec)

/-- ITS FALSE NEIGHBOUR: 'it returns false'. Refute it at one input. -/
def symbolResolvesWrong : ChangeSpec := { name := "symbolResolves", fn := fun _ => fun
  | [d1, d2, d3] => { results := [.lit (.bool false)], args := [d1, d2, d3] }
  | _ => none }
def SymbolResolvesWrongFalsely : Prop := symbolResolvesRow.holds Tryd.pinned (OpenSpec.ofChange symbolResolvesWrong)

/-- 'inqkeep2.SymbolResolved': WHATEVER THE INPUT: true; the input reads as it did. -/
def symbolResolvedSpec : ChangeSpec := { name := "symbolResolved", fn := fun _ => fun
  | [d1, d2, d3] => { results := [.lit (.bool true)], args := [d1, d2, d3] }
  | _ => none }
def symbolResolvedRow : OpenClaim := { program := "ytofolhnecfkjkaadoor", sum := "34be2c8fd21b8a778b6b804e1f80ae7359634136fd6c370917b7821bbc744192", func := "inquest/inqkeep2.SymbolResolved", spec := "symbolResolved", inPlace := ["internal/bytealg.IndexByteString", "internal/bytealg.IndexString"], unfollowed := true, recurses := true, named := ["internal/bytealg.MaxLen", "unicode/utf8.first", "unicode/utf8.acceptRanges"], apart := false, laid := [("unicode/utf8.acceptRanges", laid_unicode_utf8_acceptRanges), ("unicode/utf8.first", laid_unicode_utf8_first)] }
def SymbolResolvedSaid : Prop := symbolResolvedRow.holds Tryd.pinned (OpenSpec.ofChange symbolResolvedSpec)

/-- ITS FALSE NEIGHBOUR: 'it returns false'. Refute it at one input. -/
def symbolResolvedWrong : ChangeSpec := { name := "symbolResolved", fn := fun _ => fun
  | [d1, d2, d3] => { results := [.lit (.bool false)], args := [d1, d2, d3] }
  | _ => none }
def SymbolResolvedWrongFalsely : Prop := symbolResolvedRow.holds Tryd.pinned (OpenSpec.ofChange symbolResolvedWrong)

/-- 'inqkeep2.SymbolCovers': WHATEVER THE INPUT: true; the input reads as it did. -/
def symbolCoversSpec : ChangeSpec := { name := "symbolCovers", fn := fun _ => fun
  | [d1, d2] => { results := [.lit (.bool true)], args := [d1, d2] }
  | _ => none }
def symbolCoversRow : OpenClaim := { program := "ytofolhnecfkjkaadoor", sum := "34be2c8fd21b8a778b6b804e1f80ae7359634136fd6c370917b7821bbc744192", func := "inquest/inqkeep2.SymbolCovers", spec := "symbolCovers", inPlace := ["internal/bytealg.IndexByteString", "internal/bytealg.IndexString"], unfollowed := true, recurses := true, named := ["unicode/utf8.first", "unicode/utf8.acceptRanges", "internal/bytealg.MaxLen"], apart := false, laid := [("unicode/utf8.acceptRanges", laid_unicode_utf8_acceptRanges), ("unicode/utf8.first", laid_unicode_utf8_first)] }
def SymbolCoversSaid : Prop := symbolCoversRow.holds Tryd.pinned (OpenSpec.ofChange symbolCoversSpec)

/-- ITS FALSE NEIGHBOUR: 'it returns false'. Refute it at one input. -/
def symbolCoversWrong : ChangeSpec := { name := "symbolCovers", fn := fun _ => fun
  | [d1, d2] => { results := [.lit (.bool false)], args := [d1, d2] }
  | _ => none }
def SymbolCoversWrongFalsely : Prop := symbolCoversRow.holds Tryd.pinned (OpenSpec.ofChange symbolCoversWrong)

/- THE SECOND FORM. 'bulk': how many values and letters a reading holds, each counted each time it is reached (what is shared counts as often as it is met; a slice's spare places count too). A statement '..UptoSaid' is the law's where the arguments, and the package variables that the reading takes, are together of bulk at most 1048576: NARROWER than '..Said'. Prove '..Said' where nothing that the law and all that it calls make is longer than what came in: it says more and counts as full. Else prove '..UptoSaid'. A law counts once. -/
mutual
def uptoBulk {H : Type} : DataW H → Nat
  | .lit (.string bytes) => bytes.length + 1
  | .lit _ => 1
  | .nil => 1
  | .ptr d => uptoBulk d + 1
  | .slice elems spare => uptoBulkAll elems + uptoBulkAll spare + 1
  | .agg parts => uptoBulkAll parts + 1
  | .iface _ d => uptoBulk d + 1
  | .map entries => uptoBulkEntries entries + 1
  | .held _ => 1
def uptoBulkAll {H : Type} : List (DataW H) → Nat
  | [] => 0
  | d :: r => uptoBulk d + uptoBulkAll r
def uptoBulkEntries {H : Type} : List (Lit × DataW H) → Nat
  | [] => 0
  | x :: r => uptoBulkEntry x + uptoBulkEntries r
def uptoBulkEntry {H : Type} : Lit × DataW H → Nat
  | (.string bytes, d) => bytes.length + uptoBulk d + 1
  | (_, d) => uptoBulk d + 1
 end
def uptoSmall : (H : Type) → List (DataW H) → Bool := fun _ ds => decide (uptoBulkAll ds ≤ 1048576)
def OpenSpec.upto (s : _root_.Go.ChangeSpec) : _root_.Go.OpenSpec := { _root_.Go.OpenSpec.ofChange s with cond := some uptoSmall }

/-- 'inqlaw2.SymbolChecks', WHERE WHAT IT READS IS OF BULK AT MOST 1048576: true; the input reads as it did. -/
def symbolChecksUptoRow : OpenClaim := { program := "ytofolhnecfkjkaadoor", sum := "34be2c8fd21b8a778b6b804e1f80ae7359634136fd6c370917b7821bbc744192", func := "inquest/inqlaw2.SymbolChecks", spec := "symbolChecks", inPlace := ["internal/bytealg.IndexByteString", "internal/bytealg.IndexString"], unfollowed := true, recurses := true, named := ["unicode/utf8.first", "unicode/utf8.acceptRanges", "internal/bytealg.MaxLen"], apart := false, laid := [("unicode/utf8.acceptRanges", laid_unicode_utf8_acceptRanges), ("unicode/utf8.first", laid_unicode_utf8_first)], narrowed := true }
def SymbolChecksUptoSaid : Prop := symbolChecksUptoRow.holds Tryd.pinned (OpenSpec.upto symbolChecksSpec)

/-- 'inqkeep2.SymbolLines', WHERE WHAT IT READS IS OF BULK AT MOST 1048576: true; the input reads as it did. -/
def symbolLinesUptoRow : OpenClaim := { program := "ytofolhnecfkjkaadoor", sum := "34be2c8fd21b8a778b6b804e1f80ae7359634136fd6c370917b7821bbc744192", func := "inquest/inqkeep2.SymbolLines", spec := "symbolLines", inPlace := ["internal/bytealg.IndexByteString", "internal/bytealg.IndexString"], unfollowed := true, recurses := true, named := ["unicode/utf8.first", "unicode/utf8.acceptRanges", "internal/bytealg.MaxLen"], apart := false, laid := [("unicode/utf8.acceptRanges", laid_unicode_utf8_acceptRanges), ("unicode/utf8.first", laid_unicode_utf8_first)], narrowed := true }
def SymbolLinesUptoSaid : Prop := symbolLinesUptoRow.holds Tryd.pinned (OpenSpec.upto symbolLinesSpec)

/-- 'inqlaw2.SymbolBytes', WHERE WHAT IT READS IS OF BULK AT MOST 1048576: true; the input reads as it did. -/
def symbolBytesUptoRow : OpenClaim := { program := "ytofolhnecfkjkaadoor", sum := "34be2c8fd21b8a778b6b804e1f80ae7359634136fd6c370917b7821bbc744192", func := "inquest/inqlaw2.SymbolBytes", spec := "symbolBytes", inPlace := ["internal/bytealg.IndexByteString", "internal/bytealg.IndexString", "internal/abi.NoEscape"], unfollowed := true, recurses := true, named := ["unicode/utf8.first", "unicode/utf8.acceptRanges", "internal/bytealg.MaxLen"], apart := false, laid := [("unicode/utf8.acceptRanges", laid_unicode_utf8_acceptRanges), ("unicode/utf8.first", laid_unicode_utf8_first)], narrowed := true }
def SymbolBytesUptoSaid : Prop := symbolBytesUptoRow.holds Tryd.pinned (OpenSpec.upto symbolBytesSpec)

/-- 'inqlaw2.SymbolResolves', WHERE WHAT IT READS IS OF BULK AT MOST 1048576: true; the input reads as it did. -/
def symbolResolvesUptoRow : OpenClaim := { program := "ytofolhnecfkjkaadoor", sum := "34be2c8fd21b8a778b6b804e1f80ae7359634136fd6c370917b7821bbc744192", func := "inquest/inqlaw2.SymbolResolves", spec := "symbolResolves", inPlace := ["internal/bytealg.IndexByteString", "internal/bytealg.IndexString"], unfollowed := true, recurses := true, named := ["internal/bytealg.MaxLen", "unicode/utf8.first", "unicode/utf8.acceptRanges"], apart := false, laid := [("unicode/utf8.acceptRanges", laid_unicode_utf8_acceptRanges), ("unicode/utf8.first", laid_unicode_utf8_first)], narrowed := true }
def SymbolResolvesUptoSaid : Prop := symbolResolvesUptoRow.holds Tryd.pinned (OpenSpec.upto symbolResolvesSpec)

/-- 'inqkeep2.SymbolResolved', WHERE WHAT IT READS IS OF BULK AT MOST 1048576: true; the input reads as it did. -/
def symbolResolvedUptoRow : OpenClaim := { program := "ytofolhnecfkjkaadoor", sum := "34be2c8fd21b8a778b6b804e1f80ae7359634136fd6c370917b7821bbc744192", func := "inquest/inqkeep2.SymbolResolved", spec := "symbolResolved", inPlace := ["internal/bytealg.IndexByteString", "internal/bytealg.IndexString"], unfollowed := true, recurses := true, named := ["internal/bytealg.MaxLen", "unicode/utf8.first", "unicode/utf8.acceptRanges"], apart := false, laid := [("unicode/utf8.acceptRanges", laid_unicode_utf8_acceptRanges), ("unicode/utf8.first", laid_unicode_utf8_first)], narrowed := true }
def SymbolResolvedUptoSaid : Prop := symbolResolvedUptoRow.holds Tryd.pinned (OpenSpec.upto symbolResolvedSpec)

/-- 'inqkeep2.SymbolCovers', WHERE WHAT IT READS IS OF BULK AT MOST 1048576: true; the input reads as it did. -/
def symbolCoversUptoRow : OpenClaim := { program := "ytofolhnecfkjkaadoor", sum := "34be2c8fd21b8a778b6b804e1f80ae7359634136fd6c370917b7821bbc744192", func := "inquest/inqkeep2.SymbolCovers", spec := "symbolCovers", inPlace := ["internal/bytealg.IndexByteString", "internal/bytealg.IndexString"], unfollowed := true, recurses := true, named := ["unicode/utf8.first", "unicode/utf8.acceptRanges", "internal/bytealg.MaxLen"], apart := false, laid := [("unicode/utf8.acceptRanges", laid_unicode_utf8_acceptRanges), ("unicode/utf8.first", laid_unicode_utf8_first)], narrowed := true }
def SymbolCoversUptoSaid : Prop := symbolCoversUptoRow.holds Tryd.pinned (OpenSpec.upto symbolCoversSpec)

end Rows
end Go.Proofs.YtofolhnecfkjkaaDoor
