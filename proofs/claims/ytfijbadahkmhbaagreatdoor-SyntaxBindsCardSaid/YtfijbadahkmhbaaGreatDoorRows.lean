/-
  NARROWER THAN 'FOR EVERY INPUT', by the rows' own cells (each row's printed sentence says how): SyntaxNames: laid · SyntaxChecks: loops, laid · SyntaxQueries: loops, laid · SyntaxDeep: laid · SyntaxSpaces: laid · SyntaxPrints: laid · SyntaxBinds: laid · SyntaxEquals: loops, laid · SyntaxReturns: laid.
  DERIVED. THE GIVEN ROWS OF THIS SEAT. 9 by the template 'for every input the law returns true; each argument reads behind the call as it read before'; 0 by the template 'total and deterministic' (their statements: YtfijbadahkmhbaaGreatDoorTotals.lean).
  GIVEN WITH THE SEED: the statements are not yours to turn. If you find one false, say at which input.
  Laid BY PROGRAM, IN A SANDBOX (cutbox-rows.mjs): the forced cells as the released guide's own fill.sh prints them over the translation a12fd43d7d195f4a… (all of the seat's roots in one cut). By AI agents, Wed Nov 11 2026. No macro, syntax, notation, axiom, sorry.
-/
import Derived.Test.YtfijbadahkmhbaaGreatDoorChecked
import GoSem.PinnedTables
import GoSem.Claim
import GoSem.ClaimJoined
import GoSem.ClaimMapViews
import Derived.JoinedTies
import Derived.KernelRfl
namespace Go.Proofs.YtfijbadahkmhbaaGreatDoor
/- THE CELL 'sum', in the pinned program and in every row, IS THE sha256 OF THE DUMP (.gsa) THAT YtfijbadahkmhbaaGreatDoorProg.lean LOADS. Nothing in Lean hashes anything: it is a label: what it is worth is what the hold of that sum in a sandbox is worth. -/
noncomputable def Tryz.pinned : Pinned := { name := "ytfijbadahkmhbaagreatdoor", sum := "a12fd43d7d195f4ac8c6255f2e3f145d0a1a2972871b55a878679cabab3b6a39", checked := Tryz.checked }
namespace Rows
def none {H : Type} : Left H := { results := [], args := [] }

/- WHAT THE LISTED PACKAGE-LEVEL VARIABLES READ AS WHEN THE CALL BEGINS. Each datum BY PROGRAM (the guide's laid-datum.mjs) off the statement by which the dump's own 'gosem.cut.vars' lays the variable. In a bare row this is a premise. The card (YtfijbadahkmhbaaGreatDoorCards.lean) ties it to the program's text. -/
def laid_unicode_utf8_acceptRanges {H : Type} : DataW H := .agg [.agg [.lit (.int .u8 128), .lit (.int .u8 191)], .agg [.lit (.int .u8 160), .lit (.int .u8 191)], .agg [.lit (.int .u8 128), .lit (.int .u8 159)], .agg [.lit (.int .u8 144), .lit (.int .u8 191)], .agg [.lit (.int .u8 128), .lit (.int .u8 143)], .agg [.lit (.int .u8 0), .lit (.int .u8 0)], .agg [.lit (.int .u8 0), .lit (.int .u8 0)], .agg [.lit (.int .u8 0), .lit (.int .u8 0)], .agg [.lit (.int .u8 0), .lit (.int .u8 0)], .agg [.lit (.int .u8 0), .lit (.int .u8 0)], .agg [.lit (.int .u8 0), .lit (.int .u8 0)], .agg [.lit (.int .u8 0), .lit (.int .u8 0)], .agg [.lit (.int .u8 0), .lit (.int .u8 0)], .agg [.lit (.int .u8 0), .lit (.int .u8 0)], .agg [.lit (.int .u8 0), .lit (.int .u8 0)], .agg [.lit (.int .u8 0), .lit (.int .u8 0)]]
/-- One of Go's own tables, pinned by name: the form's constant. -/
def laid_unicode_utf8_first : DataW Unit := Go.Pinned.utf8First

/-- 'viatorlaw43.SyntaxNames': WHATEVER THE INPUT: true; the input reads as it did. -/
def syntaxNamesSpec : ChangeSpec := { name := "syntaxNames", fn := fun _ => fun
  | [d] => { results := [.lit (.bool true)], args := [d] }
  | _ => none }
def syntaxNamesRow : OpenClaim := { program := "ytfijbadahkmhbaagreatdoor", sum := "a12fd43d7d195f4ac8c6255f2e3f145d0a1a2972871b55a878679cabab3b6a39", func := "viator/viatorlaw43.SyntaxNames", spec := "syntaxNames", inPlace := ["internal/bytealg.IndexByteString", "internal/abi.NoEscape", "internal/bytealg.IndexString", "math/bits.Add64", "internal/bytealg.abigen_runtime_cmpstring", "internal/bytealg.MakeNoZero", "internal/bytealg.CountString"], unfollowed := true, recurses := true, named := ["internal/bytealg.MaxLen", "unicode/utf8.first", "unicode/utf8.acceptRanges"], apart := false, laid := [("unicode/utf8.acceptRanges", laid_unicode_utf8_acceptRanges), ("unicode/utf8.first", laid_unicode_utf8_first)] }
def SyntaxNamesSaid : Prop := syntaxNamesRow.holds Tryz.pinned (OpenSpec.ofChange syntaxNamesSpec)

/-- ITS FALSE NEIGHBOUR: 'it returns false'. Refute it at one input. -/
def syntaxNamesWrong : ChangeSpec := { name := "syntaxNames", fn := fun _ => fun
  | [d] => { results := [.lit (.bool false)], args := [d] }
  | _ => none }
def SyntaxNamesWrongFalsely : Prop := syntaxNamesRow.holds Tryz.pinned (OpenSpec.ofChange syntaxNamesWrong)

/-- 'viatorlaw43.SyntaxChecks': WHATEVER THE INPUT: true; the input reads as it did. -/
def syntaxChecksSpec : ChangeSpec := { name := "syntaxChecks", fn := fun _ => fun
  | [d] => { results := [.lit (.bool true)], args := [d] }
  | _ => none }
def syntaxChecksRow : OpenClaim := { program := "ytfijbadahkmhbaagreatdoor", sum := "a12fd43d7d195f4ac8c6255f2e3f145d0a1a2972871b55a878679cabab3b6a39", func := "viator/viatorlaw43.SyntaxChecks", spec := "syntaxChecks", inPlace := ["internal/bytealg.IndexByteString", "internal/abi.NoEscape", "internal/bytealg.IndexString", "math/bits.Add64", "internal/bytealg.abigen_runtime_cmpstring", "internal/bytealg.MakeNoZero", "internal/bytealg.CountString"], unfollowed := true, recurses := true, named := ["internal/bytealg.MaxLen", "unicode/utf8.first", "unicode/utf8.acceptRanges"], loops := true, apart := false, laid := [("unicode/utf8.acceptRanges", laid_unicode_utf8_acceptRanges), ("unicode/utf8.first", laid_unicode_utf8_first)] }
def SyntaxChecksSaid : Prop := syntaxChecksRow.holds Tryz.pinned (OpenSpec.ofChange syntaxChecksSpec)

/-- ITS FALSE NEIGHBOUR: 'it returns false'. Refute it at one input. -/
def syntaxChecksWrong : ChangeSpec := { name := "syntaxChecks", fn := fun _ => fun
  | [d] => { results := [.lit (.bool false)], args := [d] }
  | _ => none }
def SyntaxChecksWrongFalsely : Prop := syntaxChecksRow.holds Tryz.pinned (OpenSpec.ofChange syntaxChecksWrong)

/-- 'viatorlaw43.SyntaxQueries': WHATEVER THE INPUT: true; the input reads as it did. -/
def syntaxQueriesSpec : ChangeSpec := { name := "syntaxQueries", fn := fun _ => fun
  | [d] => { results := [.lit (.bool true)], args := [d] }
  | _ => none }
def syntaxQueriesRow : OpenClaim := { program := "ytfijbadahkmhbaagreatdoor", sum := "a12fd43d7d195f4ac8c6255f2e3f145d0a1a2972871b55a878679cabab3b6a39", func := "viator/viatorlaw43.SyntaxQueries", spec := "syntaxQueries", inPlace := ["internal/bytealg.IndexByteString", "internal/abi.NoEscape", "internal/bytealg.IndexString", "math/bits.Add64", "internal/bytealg.abigen_runtime_cmpstring", "internal/bytealg.MakeNoZero", "internal/bytealg.CountString"], unfollowed := true, recurses := true, named := ["internal/bytealg.MaxLen", "unicode/utf8.first", "unicode/utf8.acceptRanges"], loops := true, apart := false, laid := [("unicode/utf8.acceptRanges", laid_unicode_utf8_acceptRanges), ("unicode/utf8.first", laid_unicode_utf8_first)] }
def SyntaxQueriesSaid : Prop := syntaxQueriesRow.holds Tryz.pinned (OpenSpec.ofChange syntaxQueriesSpec)

/-- ITS FALSE NEIGHBOUR: 'it returns false'. Refute it at one input. -/
def syntaxQueriesWrong : ChangeSpec := { name := "syntaxQueries", fn := fun _ => fun
  | [d] => { results := [.lit (.bool false)], args := [d] }
  | _ => none }
def SyntaxQueriesWrongFalsely : Prop := syntaxQueriesRow.holds Tryz.pinned (OpenSpec.ofChange syntaxQueriesWrong)

/-- 'viatorlaw43.SyntaxDeep': WHATEVER THE INPUT: true; the input reads as it did. -/
def syntaxDeepSpec : ChangeSpec := { name := "syntaxDeep", fn := fun _ => fun
  | [d] => { results := [.lit (.bool true)], args := [d] }
  | _ => none }
def syntaxDeepRow : OpenClaim := { program := "ytfijbadahkmhbaagreatdoor", sum := "a12fd43d7d195f4ac8c6255f2e3f145d0a1a2972871b55a878679cabab3b6a39", func := "viator/viatorlaw43.SyntaxDeep", spec := "syntaxDeep", inPlace := ["internal/bytealg.IndexByteString", "internal/abi.NoEscape", "internal/bytealg.IndexString", "math/bits.Add64", "internal/bytealg.abigen_runtime_cmpstring", "internal/bytealg.MakeNoZero", "internal/bytealg.CountString"], unfollowed := true, recurses := true, named := ["internal/bytealg.MaxLen", "unicode/utf8.first", "unicode/utf8.acceptRanges"], apart := false, laid := [("unicode/utf8.acceptRanges", laid_unicode_utf8_acceptRanges), ("unicode/utf8.first", laid_unicode_utf8_first)] }
def SyntaxDeepSaid : Prop := syntaxDeepRow.holds Tryz.pinned (OpenSpec.ofChange syntaxDeepSpec)

/-- ITS FALSE NEIGHBOUR: 'it returns false'. Refute it at one input. -/
def syntaxDeepWrong : ChangeSpec := { name := "syntaxDeep", fn := fun _ => fun
  | [d] => { results := [.lit (.bool false)], args := [d] }
  | _ => none }
def SyntaxDeepWrongFalsely : Prop := syntaxDeepRow.holds Tryz.pinned (OpenSpec.ofChange syntaxDeepWrong)

/-- 'viatorlaw43.SyntaxSpaces': WHATEVER THE INPUT: true; the input reads as it did. -/
def syntaxSpacesSpec : ChangeSpec := { name := "syntaxSpaces", fn := fun _ => fun
  | [d1, d2, d3] => { results := [.lit (.bool true)], args := [d1, d2, d3] }
  | _ => none }
def syntaxSpacesRow : OpenClaim := { program := "ytfijbadahkmhbaagreatdoor", sum := "a12fd43d7d195f4ac8c6255f2e3f145d0a1a2972871b55a878679cabab3b6a39", func := "viator/viatorlaw43.SyntaxSpaces", spec := "syntaxSpaces", inPlace := ["internal/bytealg.IndexByteString", "internal/abi.NoEscape", "internal/bytealg.IndexString", "math/bits.Add64", "internal/bytealg.abigen_runtime_cmpstring", "internal/bytealg.MakeNoZero", "internal/bytealg.CountString"], unfollowed := true, recurses := true, named := ["internal/bytealg.MaxLen", "unicode/utf8.first", "unicode/utf8.acceptRanges"], apart := false, laid := [("unicode/utf8.acceptRanges", laid_unicode_utf8_acceptRanges), ("unicode/utf8.first", laid_unicode_utf8_first)] }
def SyntaxSpacesSaid : Prop := syntaxSpacesRow.holds Tryz.pinned (OpenSpec.ofChange syntaxSpacesSpec)

/-- ITS FALSE NEIGHBOUR: 'it returns false'. Refute it at one input. -/
def syntaxSpacesWrong : ChangeSpec := { name := "syntaxSpaces", fn := fun _ => fun
  | [d1, d2, d3] => { results := [.lit (.bool false)], args := [d1, d2, d3] }
  | _ => none }
def SyntaxSpacesWrongFalsely : Prop := syntaxSpacesRow.holds Tryz.pinned (OpenSpec.ofChange syntaxSpacesWrong)

/-- 'viatorlaw43.SyntaxPrints': WHATEVER THE INPUT: true; the input reads as it did. -/
def syntaxPrintsSpec : ChangeSpec := { name := "syntaxPrints", fn := fun _ => fun
  | [d1, d2] => { results := [.lit (.bool true)], args := [d1, d2] }
  | _ => none }
def syntaxPrintsRow : OpenClaim := { program := "ytfijbadahkmhbaagreatdoor", sum := "a12fd43d7d195f4ac8c6255f2e3f145d0a1a2972871b55a878679cabab3b6a39", func := "viator/viatorlaw43.SyntaxPrints", spec := "syntaxPrints", inPlace := ["internal/bytealg.IndexByteString", "internal/abi.NoEscape", "internal/bytealg.IndexString", "math/bits.Add64", "internal/bytealg.abigen_runtime_cmpstring", "internal/bytealg.MakeNoZero", "internal/bytealg.CountString"], unfollowed := true, recurses := true, named := ["internal/bytealg.MaxLen", "unicode/utf8.first", "unicode/utf8.acceptRanges"], apart := false, laid := [("unicode/utf8.acceptRanges", laid_unicode_utf8_acceptRanges), ("unicode/utf8.first", laid_unicode_utf8_first)] }
def SyntaxPrintsSaid : Prop := syntaxPrintsRow.holds Tryz.pinned (OpenSpec.ofChange syntaxPrintsSpec)

/-- ITS FALSE NEIGHBOUR: 'it returns false'. Refute it at one input. -/
def syntaxPrintsWrong : ChangeSpec := { name := "syntaxPrints", fn := fun _ => fun
  | [d1, d2] => { results := [.lit (.bool false)], args := [d1, d2] }
  | _ => none }
def SyntaxPrintsWrongFalsely : Prop := syntaxPrintsRow.holds Tryz.pinned (OpenSpec.ofChange syntaxPrintsWrong)

/-- 'viatorlaw43.SyntaxBinds': WHATEVER THE INPUT: true; the input reads as it did. -/
def syntaxBindsSpec : ChangeSpec := { name := "syntaxBinds", fn := fun _ => fun
  | [d1, d2, d3] => { results := [.lit (.bool true)], args := [d1, d2, d3] }
  | _ => none }
def syntaxBindsRow : OpenClaim := { program := "ytfijbadahkmhbaagreatdoor", sum := "a12fd43d7d195f4ac8c6255f2e3f145d0a1a2972871b55a878679cabab3b6a39", func := "viator/viatorlaw43.SyntaxBinds", spec := "syntaxBinds", inPlace := ["internal/bytealg.IndexByteString", "internal/abi.NoEscape", "internal/bytealg.IndexString", "math/bits.Add64", "internal/bytealg.abigen_runtime_cmpstring", "internal/bytealg.MakeNoZero", "internal/bytealg.CountString"], unfollowed := true, recurses := true, named := ["internal/bytealg.MaxLen", "unicode/utf8.first", "unicode/utf8.acceptRanges"], apart := false, laid := [("unicode/utf8.acceptRanges", laid_unicode_utf8_acceptRanges), ("unicode/utf8.first", laid_unicode_utf8_first)] }
def SyntaxBindsSaid : Prop := syntaxBindsRow.holds Tryz.pinned (OpenSpec.ofChange syntaxBindsSpec)

/-- ITS FALSE NEIGHBOUR: 'it returns false'. Refute it at one input. -/
def syntaxBindsWrong : ChangeSpec := { name := "syntaxBinds", fn := fun _ => fun
  | [d1, d2, d3] => { results := [.lit (.bool false)], args := [d1, d2, d3] }
  | _ => none }
def SyntaxBindsWrongFalsely : Prop := syntaxBindsRow.holds Tryz.pinned (OpenSpec.ofChange syntaxBindsWrong)

/-- 'viatorlaw43.SyntaxEquals': WHATEVER THE INPUT: true; the input reads as it did. -/
def syntaxEqualsSpec : ChangeSpec := { name := "syntaxEquals", fn := fun _ => fun
  | [d1, d2] => { results := [.lit (.bool true)], args := [d1, d2] }
  | _ => none }
def syntaxEqualsRow : OpenClaim := { program := "ytfijbadahkmhbaagreatdoor", sum := "a12fd43d7d195f4ac8c6255f2e3f145d0a1a2972871b55a878679cabab3b6a39", func := "viator/viatorlaw43.SyntaxEquals", spec := "syntaxEquals", inPlace := ["internal/bytealg.IndexByteString", "internal/abi.NoEscape", "internal/bytealg.IndexString", "math/bits.Add64", "internal/bytealg.abigen_runtime_cmpstring", "internal/bytealg.MakeNoZero", "internal/bytealg.CountString"], unfollowed := true, recurses := true, named := ["internal/bytealg.MaxLen", "unicode/utf8.first", "unicode/utf8.acceptRanges"], loops := true, apart := false, laid := [("unicode/utf8.acceptRanges", laid_unicode_utf8_acceptRanges), ("unicode/utf8.first", laid_unicode_utf8_first)] }
def SyntaxEqualsSaid : Prop := syntaxEqualsRow.holds Tryz.pinned (OpenSpec.ofChange syntaxEqualsSpec)

/-- ITS FALSE NEIGHBOUR: 'it returns false'. Refute it at one input. -/
def syntaxEqualsWrong : ChangeSpec := { name := "syntaxEquals", fn := fun _ => fun
  | [d1, d2] => { results := [.lit (.bool false)], args := [d1, d2] }
  | _ => none }
def SyntaxEqualsWrongFalsely : Prop := syntaxEqualsRow.holds Tryz.pinned (OpenSpec.ofChange syntaxEqualsWrong)

/-- 'viatorlaw43.SyntaxReturns': WHATEVER THE INPUT: true; the input reads as it did. -/
def syntaxReturnsSpec : ChangeSpec := { name := "syntaxReturns", fn := fun _ => fun
  | [d1, d2] => { results := [.lit (.bool true)], args := [d1, d2] }
  | _ => none }
def syntaxReturnsRow : OpenClaim := { program := "ytfijbadahkmhbaagreatdoor", sum := "a12fd43d7d195f4ac8c6255f2e3f145d0a1a2972871b55a878679cabab3b6a39", func := "viator/viatorlaw43.SyntaxReturns", spec := "syntaxReturns", inPlace := ["internal/bytealg.IndexByteString", "internal/abi.NoEscape", "internal/bytealg.IndexString", "math/bits.Add64", "internal/bytealg.abigen_runtime_cmpstring", "internal/bytealg.MakeNoZero", "internal/bytealg.CountString"], unfollowed := true, recurses := true, named := ["internal/bytealg.MaxLen", "unicode/utf8.first", "unicode/utf8.acceptRanges"], apart := false, laid := [("unicode/utf8.acceptRanges", laid_unicode_utf8_acceptRanges), ("unicode/utf8.first", laid_unicode_utf8_first)] }
def SyntaxReturnsSaid : Prop := syntaxReturnsRow.holds Tryz.pinned (OpenSpec.ofChange syntaxReturnsSpec)

/-- ITS FALSE NEIGHBOUR: 'it returns false'. Refute it at one input. -/
def syntaxReturnsWrong : ChangeSpec := { name := "syntaxReturns", fn := fun _ => fun
  | [d1, d2] => { results := [.lit (.bool false)], args := [d1, d2] }
  | _ => none }
def SyntaxReturnsWrongFalsely : Prop := syntaxReturnsRow.holds Tryz.pinned (OpenSpec.ofChange syntaxReturnsWrong)

/- THE SECOND FORM. 'bulk': how many values and letters a reading holds, each counted each time it is reached (what is shared counts as often as it is met; a slice's spare places count too). A statement '..UptoSaid' is the law's where the arguments, and the package variables that the reading takes, are together of bulk at most 1048576: NARROWER than '..Said'. Prove '..Said' where nothing that the law and all that it calls make is longer than what came in: it says more and counts as full. Else prove '..UptoSaid'. A law counts once. -/
mutual
def uptoBulk {H : Type} : DataW H → Nat
  | .lit (.string bytes) => bytes.length + 1
  | .lit _ => 1
  | .nil => 1
  | .ptr d => uptoBulk d + 1
  | .slice elems spare => uptoBulkAll elems + uptoBulkAll spare + 1
  | .agg parts => uptoBulkAll parts + 1
  | .iface _ d => uptoBulk d + 1
  | .map entries => uptoBulkEntries entries + 1
  | .held _ => 1
def uptoBulkAll {H : Type} : List (DataW H) → Nat
  | [] => 0
  | d :: r => uptoBulk d + uptoBulkAll r
def uptoBulkEntries {H : Type} : List (Lit × DataW H) → Nat
  | [] => 0
  | x :: r => uptoBulkEntry x + uptoBulkEntries r
def uptoBulkEntry {H : Type} : Lit × DataW H → Nat
  | (.string bytes, d) => bytes.length + uptoBulk d + 1
  | (_, d) => uptoBulk d + 1
 end
def uptoSmall : (H : Type) → List (DataW H) → Bool := fun _ ds => decide (uptoBulkAll ds ≤ 1048576)
def OpenSpec.upto (s : _root_.Go.ChangeSpec) : _root_.Go.OpenSpec := { _root_.Go.OpenSpec.ofChange s with cond := some uptoSmall }

/-- 'viatorlaw43.SyntaxNames', WHERE WHAT IT READS IS OF BULK AT MOST 1048576: true; the input reads as it did. -/
def syntaxNamesUptoRow : OpenClaim := { program := "ytfijbadahkmhbaagreatdoor", sum := "a12fd43d7d195f4ac8c6255f2e3f145d0a1a2972871b55a878679cabab3b6a39", func := "viator/viatorlaw43.SyntaxNames", spec := "syntaxNames", inPlace := ["internal/bytealg.IndexByteString", "internal/abi.NoEscape", "internal/bytealg.IndexString", "math/bits.Add64", "internal/bytealg.abigen_runtime_cmpstring", "internal/bytealg.MakeNoZero", "internal/bytealg.CountString"], unfollowed := true, recurses := true, named := ["internal/bytealg.MaxLen", "unicode/utf8.first", "unicode/utf8.acceptRanges"], apart := false, laid := [("unicode/utf8.acceptRanges", laid_unicode_utf8_acceptRanges), ("unicode/utf8.first", laid_unicode_utf8_first)], narrowed := true }
def SyntaxNamesUptoSaid : Prop := syntaxNamesUptoRow.holds Tryz.pinned (OpenSpec.upto syntaxNamesSpec)

/-- 'viatorlaw43.SyntaxChecks', WHERE WHAT IT READS IS OF BULK AT MOST 1048576: true; the input reads as it did. -/
def syntaxChecksUptoRow : OpenClaim := { program := "ytfijbadahkmhbaagreatdoor", sum := "a12fd43d7d195f4ac8c6255f2e3f145d0a1a2972871b55a878679cabab3b6a39", func := "viator/viatorlaw43.SyntaxChecks", spec := "syntaxChecks", inPlace := ["internal/bytealg.IndexByteString", "internal/abi.NoEscape", "internal/bytealg.IndexString", "math/bits.Add64", "internal/bytealg.abigen_runtime_cmpstring", "internal/bytealg.MakeNoZero", "internal/bytealg.CountString"], unfollowed := true, recurses := true, named := ["internal/bytealg.MaxLen", "unicode/utf8.first", "unicode/utf8.acceptRanges"], loops := true, apart := false, laid := [("unicode/utf8.acceptRanges", laid_unicode_utf8_acceptRanges), ("unicode/utf8.first", laid_unicode_utf8_first)], narrowed := true }
def SyntaxChecksUptoSaid : Prop := syntaxChecksUptoRow.holds Tryz.pinned (OpenSpec.upto syntaxChecksSpec)

/-- 'viatorlaw43.SyntaxQueries', WHERE WHAT IT READS IS OF BULK AT MOST 1048576: true; the input reads as it did. -/
def syntaxQueriesUptoRow : OpenClaim := { program := "ytfijbadahkmhbaagreatdoor", sum := "a12fd43d7d195f4ac8c6255f2e3f145d0a1a2972871b55a878679cabab3b6a39", func := "viator/viatorlaw43.SyntaxQueries", spec := "syntaxQueries", inPlace := ["internal/bytealg.IndexByteString", "internal/abi.NoEscape", "internal/bytealg.IndexString", "math/bits.Add64", "internal/bytealg.abigen_runtime_cmpstring", "internal/bytealg.MakeNoZero", "internal/bytealg.CountString"], unfollowed := true, recurses := true, named := ["internal/bytealg.MaxLen", "unicode/utf8.first", "unicode/utf8.acceptRanges"], loops := true, apart := false, laid := [("unicode/utf8.acceptRanges", laid_unicode_utf8_acceptRanges), ("unicode/utf8.first", laid_unicode_utf8_first)], narrowed := true }
def SyntaxQueriesUptoSaid : Prop := syntaxQueriesUptoRow.holds Tryz.pinned (OpenSpec.upto syntaxQueriesSpec)

/-- 'viatorlaw43.SyntaxDeep', WHERE WHAT IT READS IS OF BULK AT MOST 1048576: true; the input reads as it did. -/
def syntaxDeepUptoRow : OpenClaim := { program := "ytfijbadahkmhbaagreatdoor", sum := "a12fd43d7d195f4ac8c6255f2e3f145d0a1a2972871b55a878679cabab3b6a39", func := "viator/viatorlaw43.SyntaxDeep", spec := "syntaxDeep", inPlace := ["internal/bytealg.IndexByteString", "internal/abi.NoEscape", "internal/bytealg.IndexString", "math/bits.Add64", "internal/bytealg.abigen_runtime_cmpstring", "internal/bytealg.MakeNoZero", "internal/bytealg.CountString"], unfollowed := true, recurses := true, named := ["internal/bytealg.MaxLen", "unicode/utf8.first", "unicode/utf8.acceptRanges"], apart := false, laid := [("unicode/utf8.acceptRanges", laid_unicode_utf8_acceptRanges), ("unicode/utf8.first", laid_unicode_utf8_first)], narrowed := true }
def SyntaxDeepUptoSaid : Prop := syntaxDeepUptoRow.holds Tryz.pinned (OpenSpec.upto syntaxDeepSpec)

/-- 'viatorlaw43.SyntaxSpaces', WHERE WHAT IT READS IS OF BULK AT MOST 1048576: true; the input reads as it did. -/
def syntaxSpacesUptoRow : OpenClaim := { program := "ytfijbadahkmhbaagreatdoor", sum := "a12fd43d7d195f4ac8c6255f2e3f145d0a1a2972871b55a878679cabab3b6a39", func := "viator/viatorlaw43.SyntaxSpaces", spec := "syntaxSpaces", inPlace := ["internal/bytealg.IndexByteString", "internal/abi.NoEscape", "internal/bytealg.IndexString", "math/bits.Add64", "internal/bytealg.abigen_runtime_cmpstring", "internal/bytealg.MakeNoZero", "internal/bytealg.CountString"], unfollowed := true, recurses := true, named := ["internal/bytealg.MaxLen", "unicode/utf8.first", "unicode/utf8.acceptRanges"], apart := false, laid := [("unicode/utf8.acceptRanges", laid_unicode_utf8_acceptRanges), ("unicode/utf8.first", laid_unicode_utf8_first)], narrowed := true }
def SyntaxSpacesUptoSaid : Prop := syntaxSpacesUptoRow.holds Tryz.pinned (OpenSpec.upto syntaxSpacesSpec)

/-- 'viatorlaw43.SyntaxPrints', WHERE WHAT IT READS IS OF BULK AT MOST 1048576: true; the input reads as it did. -/
def syntaxPrintsUptoRow : OpenClaim := { program := "ytfijbadahkmhbaagreatdoor", sum := "a12fd43d7d195f4ac8c6255f2e3f145d0a1a2972871b55a878679cabab3b6a39", func := "viator/viatorlaw43.SyntaxPrints", spec := "syntaxPrints", inPlace := ["internal/bytealg.IndexByteString", "internal/abi.NoEscape", "internal/bytealg.IndexString", "math/bits.Add64", "internal/bytealg.abigen_runtime_cmpstring", "internal/bytealg.MakeNoZero", "internal/bytealg.CountString"], unfollowed := true, recurses := true, named := ["internal/bytealg.MaxLen", "unicode/utf8.first", "unicode/utf8.acceptRanges"], apart := false, laid := [("unicode/utf8.acceptRanges", laid_unicode_utf8_acceptRanges), ("unicode/utf8.first", laid_unicode_utf8_first)], narrowed := true }
def SyntaxPrintsUptoSaid : Prop := syntaxPrintsUptoRow.holds Tryz.pinned (OpenSpec.upto syntaxPrintsSpec)

/-- 'viatorlaw43.SyntaxBinds', WHERE WHAT IT READS IS OF BULK AT MOST 1048576: true; the input reads as it did. -/
def syntaxBindsUptoRow : OpenClaim := { program := "ytfijbadahkmhbaagreatdoor", sum := "a12fd43d7d195f4ac8c6255f2e3f145d0a1a2972871b55a878679cabab3b6a39", func := "viator/viatorlaw43.SyntaxBinds", spec := "syntaxBinds", inPlace := ["internal/bytealg.IndexByteString", "internal/abi.NoEscape", "internal/bytealg.IndexString", "math/bits.Add64", "internal/bytealg.abigen_runtime_cmpstring", "internal/bytealg.MakeNoZero", "internal/bytealg.CountString"], unfollowed := true, recurses := true, named := ["internal/bytealg.MaxLen", "unicode/utf8.first", "unicode/utf8.acceptRanges"], apart := false, laid := [("unicode/utf8.acceptRanges", laid_unicode_utf8_acceptRanges), ("unicode/utf8.first", laid_unicode_utf8_first)], narrowed := true }
def SyntaxBindsUptoSaid : Prop := syntaxBindsUptoRow.holds Tryz.pinned (OpenSpec.upto syntaxBindsSpec)

/-- 'viatorlaw43.SyntaxEquals', WHERE WHAT IT READS IS OF BULK AT MOST 1048576: true; the input reads as it did. -/
def syntaxEqualsUptoRow : OpenClaim := { program := "ytfijbadahkmhbaagreatdoor", sum := "a12fd43d7d195f4ac8c6255f2e3f145d0a1a2972871b55a878679cabab3b6a39", func := "viator/viatorlaw43.SyntaxEquals", spec := "syntaxEquals", inPlace := ["internal/bytealg.IndexByteString", "internal/abi.NoEscape", "internal/bytealg.IndexString", "math/bits.Add64", "internal/bytealg.abigen_runtime_cmpstring", "internal/bytealg.MakeNoZero", "internal/bytealg.CountString"], unfollowed := true, recurses := true, named := ["internal/bytealg.MaxLen", "unicode/utf8.first", "unicode/utf8.acceptRanges"], loops := true, apart := false, laid := [("unicode/utf8.acceptRanges", laid_unicode_utf8_acceptRanges), ("unicode/utf8.first", laid_unicode_utf8_first)], narrowed := true }
def SyntaxEqualsUptoSaid : Prop := syntaxEqualsUptoRow.holds Tryz.pinned (OpenSpec.upto syntaxEqualsSpec)

/-- 'viatorlaw43.SyntaxReturns', WHERE WHAT IT READS IS OF BULK AT MOST 1048576: true; the input reads as it did. -/
def syntaxReturnsUptoRow : OpenClaim := { program := "ytfijbadahkmhbaagreatdoor", sum := "a12fd43d7d195f4ac8c6255f2e3f145d0a1a2972871b55a878679cabab3b6a39", func := "viator/viatorlaw43.SyntaxReturns", spec := "syntaxReturns", inPlace := ["internal/bytealg.IndexByteString", "internal/abi.NoEscape", "internal/bytealg.IndexString", "math/bits.Add64", "internal/bytealg.abigen_runtime_cmpstring", "internal/bytealg.MakeNoZero", "internal/bytealg.CountString"], unfollowed := true, recurses := true, named := ["internal/bytealg.MaxLen", "unicode/utf8.first", "unicode/utf8.acceptRanges"], apart := false, laid := [("unicode/utf8.acceptRanges", laid_unicode_utf8_acceptRanges), ("unicode/utf8.first", laid_unicode_utf8_first)], narrowed := true }
def SyntaxReturnsUptoSaid : Prop := syntaxReturnsUptoRow.holds Tryz.pinned (OpenSpec.upto syntaxReturnsSpec)

end Rows
end Go.Proofs.YtfijbadahkmhbaaGreatDoor
