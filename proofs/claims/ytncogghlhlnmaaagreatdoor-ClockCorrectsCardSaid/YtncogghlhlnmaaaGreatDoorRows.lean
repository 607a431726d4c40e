/-
  NARROWER THAN 'FOR EVERY INPUT', by the rows' own cells (each row's printed sentence says how): ClockOffsets: laid · ClockChains: laid · ClockSums: laid · ClockCycles: laid · ClockNarrows: laid · ClockOrders: laid · ClockCorrects: laid · ClockChecks: laid · ClockContains: laid.
  DERIVED. THE GIVEN ROWS OF THIS SEAT. 9 by the template 'for every input the law returns true; each argument reads behind the call as it read before'; 0 by the template 'total and deterministic' (their statements: YtncogghlhlnmaaaGreatDoorTotals.lean).
  GIVEN WITH THE SEED: the statements are not yours to turn. If you find one false, say at which input.
  Laid BY PROGRAM, IN A SANDBOX (cutbox-rows.mjs): the forced cells as the released guide's own fill.sh prints them over the translation 264949a5f5215bef… (all of the seat's roots in one cut). By AI agents, Wed Nov 11 2026. No macro, syntax, notation, axiom, sorry.
-/
import Derived.Test.YtncogghlhlnmaaaGreatDoorChecked
import GoSem.PinnedTables
import GoSem.Claim
import GoSem.ClaimJoined
import GoSem.ClaimMapViews
import Derived.JoinedTies
import Derived.KernelRfl
namespace Go.Proofs.YtncogghlhlnmaaaGreatDoor
/- THE CELL 'sum', in the pinned program and in every row, IS THE sha256 OF THE DUMP (.gsa) THAT YtncogghlhlnmaaaGreatDoorProg.lean LOADS. Nothing in Lean hashes anything: it is a label: what it is worth is what the hold of that sum in a sandbox is worth. -/
noncomputable def Tryz.pinned : Pinned := { name := "ytncogghlhlnmaaagreatdoor", sum := "264949a5f5215befc15c096a0aeee4e0c82be709a5b7a8cfa09b64eb5da713e3", checked := Tryz.checked }
namespace Rows
def none {H : Type} : Left H := { results := [], args := [] }

/- WHAT THE LISTED PACKAGE-LEVEL VARIABLES READ AS WHEN THE CALL BEGINS. Each datum BY PROGRAM (the guide's laid-datum.mjs) off the statement by which the dump's own 'gosem.cut.vars' lays the variable. In a bare row this is a premise. The card (YtncogghlhlnmaaaGreatDoorCards.lean) ties it to the program's text. -/
def laid_unicode_utf8_acceptRanges {H : Type} : DataW H := .agg [.agg [.lit (.int .u8 128), .lit (.int .u8 191)], .agg [.lit (.int .u8 160), .lit (.int .u8 191)], .agg [.lit (.int .u8 128), .lit (.int .u8 159)], .agg [.lit (.int .u8 144), .lit (.int .u8 191)], .agg [.lit (.int .u8 128), .lit (.int .u8 143)], .agg [.lit (.int .u8 0), .lit (.int .u8 0)], .agg [.lit (.int .u8 0), .lit (.int .u8 0)], .agg [.lit (.int .u8 0), .lit (.int .u8 0)], .agg [.lit (.int .u8 0), .lit (.int .u8 0)], .agg [.lit (.int .u8 0), .lit (.int .u8 0)], .agg [.lit (.int .u8 0), .lit (.int .u8 0)], .agg [.lit (.int .u8 0), .lit (.int .u8 0)], .agg [.lit (.int .u8 0), .lit (.int .u8 0)], .agg [.lit (.int .u8 0), .lit (.int .u8 0)], .agg [.lit (.int .u8 0), .lit (.int .u8 0)], .agg [.lit (.int .u8 0), .lit (.int .u8 0)]]
/-- One of Go's own tables, pinned by name: the form's constant. -/
def laid_unicode_utf8_first : DataW Unit := Go.Pinned.utf8First

/-- 'viatorlaw26.ClockOffsets': WHATEVER THE INPUT: true; the input reads as it did. -/
def clockOffsetsSpec : ChangeSpec := { name := "clockOffsets", fn := fun _ => fun
  | [d1, d2] => { results := [.lit (.bool true)], args := [d1, d2] }
  | _ => none }
def clockOffsetsRow : OpenClaim := { program := "ytncogghlhlnmaaagreatdoor", sum := "264949a5f5215befc15c096a0aeee4e0c82be709a5b7a8cfa09b64eb5da713e3", func := "viator/viatorlaw26.ClockOffsets", spec := "clockOffsets", inPlace := ["internal/bytealg.abigen_runtime_cmpstring", "internal/bytealg.IndexByteString", "internal/bytealg.IndexString", "math/bits.Add64"], unfollowed := true, recurses := true, named := ["unicode/utf8.first", "unicode/utf8.acceptRanges", "internal/bytealg.MaxLen"], apart := false, laid := [("unicode/utf8.acceptRanges", laid_unicode_utf8_acceptRanges), ("unicode/utf8.first", laid_unicode_utf8_first)] }
def ClockOffsetsSaid : Prop := clockOffsetsRow.holds Tryz.pinned (OpenSpec.ofChange clockOffsetsSpec)

/-- ITS FALSE NEIGHBOUR: 'it returns false'. Refute it at one input. -/
def clockOffsetsWrong : ChangeSpec := { name := "clockOffsets", fn := fun _ => fun
  | [d1, d2] => { results := [.lit (.bool false)], args := [d1, d2] }
  | _ => none }
def ClockOffsetsWrongFalsely : Prop := clockOffsetsRow.holds Tryz.pinned (OpenSpec.ofChange clockOffsetsWrong)

/-- 'viatorlaw26.ClockChains': WHATEVER THE INPUT: true; the input reads as it did. -/
def clockChainsSpec : ChangeSpec := { name := "clockChains", fn := fun _ => fun
  | [d1, d2] => { results := [.lit (.bool true)], args := [d1, d2] }
  | _ => none }
def clockChainsRow : OpenClaim := { program := "ytncogghlhlnmaaagreatdoor", sum := "264949a5f5215befc15c096a0aeee4e0c82be709a5b7a8cfa09b64eb5da713e3", func := "viator/viatorlaw26.ClockChains", spec := "clockChains", inPlace := ["internal/bytealg.abigen_runtime_cmpstring", "internal/bytealg.IndexByteString", "internal/bytealg.IndexString", "math/bits.Add64"], unfollowed := true, recurses := true, named := ["unicode/utf8.first", "unicode/utf8.acceptRanges", "internal/bytealg.MaxLen"], apart := false, laid := [("unicode/utf8.acceptRanges", laid_unicode_utf8_acceptRanges), ("unicode/utf8.first", laid_unicode_utf8_first)] }
def ClockChainsSaid : Prop := clockChainsRow.holds Tryz.pinned (OpenSpec.ofChange clockChainsSpec)

/-- ITS FALSE NEIGHBOUR: 'it returns false'. Refute it at one input. -/
def clockChainsWrong : ChangeSpec := { name := "clockChains", fn := fun _ => fun
  | [d1, d2] => { results := [.lit (.bool false)], args := [d1, d2] }
  | _ => none }
def ClockChainsWrongFalsely : Prop := clockChainsRow.holds Tryz.pinned (OpenSpec.ofChange clockChainsWrong)

/-- 'viatorlaw26.ClockSums': WHATEVER THE INPUT: true; the input reads as it did. -/
def clockSumsSpec : ChangeSpec := { name := "clockSums", fn := fun _ => fun
  | [d1, d2, d3] => { results := [.lit (.bool true)], args := [d1, d2, d3] }
  | _ => none }
def clockSumsRow : OpenClaim := { program := "ytncogghlhlnmaaagreatdoor", sum := "264949a5f5215befc15c096a0aeee4e0c82be709a5b7a8cfa09b64eb5da713e3", func := "viator/viatorlaw26.ClockSums", spec := "clockSums", inPlace := ["internal/bytealg.abigen_runtime_cmpstring", "internal/bytealg.IndexByteString", "internal/bytealg.IndexString", "math/bits.Add64"], unfollowed := true, recurses := true, named := ["unicode/utf8.first", "unicode/utf8.acceptRanges", "internal/bytealg.MaxLen"], apart := false, laid := [("unicode/utf8.acceptRanges", laid_unicode_utf8_acceptRanges), ("unicode/utf8.first", laid_unicode_utf8_first)] }
def ClockSumsSaid : Prop := clockSumsRow.holds Tryz.pinned (OpenSpec.ofChange clockSumsSpec)

/-- ITS FALSE NEIGHBOUR: 'it returns false'. Refute it at one input. -/
def clockSumsWrong : ChangeSpec := { name := "clockSums", fn := fun _ => fun
  | [d1, d2, d3] => { results := [.lit (.bool false)], args := [d1, d2, d3] }
  | _ => none }
def ClockSumsWrongFalsely : Prop := clockSumsRow.holds Tryz.pinned (OpenSpec.ofChange clockSumsWrong)

/-- 'viatorlaw26.ClockCycles': WHATEVER THE INPUT: true; the input reads as it did. -/
def clockCyclesSpec : ChangeSpec := { name := "clockCycles", fn := fun _ => fun
  | [d1, d2] => { results := [.lit (.bool true)], args := [d1, d2] }
  | _ => none }
def clockCyclesRow : OpenClaim := { program := "ytncogghlhlnmaaagreatdoor", sum := "264949a5f5215befc15c096a0aeee4e0c82be709a5b7a8cfa09b64eb5da713e3", func := "viator/viatorlaw26.ClockCycles", spec := "clockCycles", inPlace := ["internal/bytealg.abigen_runtime_cmpstring", "internal/bytealg.IndexByteString", "internal/bytealg.IndexString", "math/bits.Add64"], unfollowed := true, recurses := true, named := ["unicode/utf8.first", "unicode/utf8.acceptRanges", "internal/bytealg.MaxLen"], apart := false, laid := [("unicode/utf8.acceptRanges", laid_unicode_utf8_acceptRanges), ("unicode/utf8.first", laid_unicode_utf8_first)] }
def ClockCyclesSaid : Prop := clockCyclesRow.holds Tryz.pinned (OpenSpec.ofChange clockCyclesSpec)

/-- ITS FALSE NEIGHBOUR: 'it returns false'. Refute it at one input. -/
def clockCyclesWrong : ChangeSpec := { name := "clockCycles", fn := fun _ => fun
  | [d1, d2] => { results := [.lit (.bool false)], args := [d1, d2] }
  | _ => none }
def ClockCyclesWrongFalsely : Prop := clockCyclesRow.holds Tryz.pinned (OpenSpec.ofChange clockCyclesWrong)

/-- 'viatorlaw26.ClockNarrows': WHATEVER THE INPUT: true; the input reads as it did. -/
def clockNarrowsSpec : ChangeSpec := { name := "clockNarrows", fn := fun _ => fun
  | [d1, d2, d3] => { results := [.lit (.bool true)], args := [d1, d2, d3] }
  | _ => none }
def clockNarrowsRow : OpenClaim := { program := "ytncogghlhlnmaaagreatdoor", sum := "264949a5f5215befc15c096a0aeee4e0c82be709a5b7a8cfa09b64eb5da713e3", func := "viator/viatorlaw26.ClockNarrows", spec := "clockNarrows", inPlace := ["internal/bytealg.abigen_runtime_cmpstring", "internal/bytealg.IndexByteString", "internal/bytealg.IndexString", "math/bits.Add64"], unfollowed := true, recurses := true, named := ["unicode/utf8.first", "unicode/utf8.acceptRanges", "internal/bytealg.MaxLen"], apart := false, laid := [("unicode/utf8.acceptRanges", laid_unicode_utf8_acceptRanges), ("unicode/utf8.first", laid_unicode_utf8_first)] }
def ClockNarrowsSaid : Prop := clockNarrowsRow.holds Tryz.pinned (OpenSpec.ofChange clockNarrowsSpec)

/-- ITS FALSE NEIGHBOUR: 'it returns false'. Refute it at one input. -/
def clockNarrowsWrong : ChangeSpec := { name := "clockNarrows", fn := fun _ => fun
  | [d1, d2, d3] => { results := [.lit (.bool false)], args := [d1, d2, d3] }
  | _ => none }
def ClockNarrowsWrongFalsely : Prop := clockNarrowsRow.holds Tryz.pinned (OpenSpec.ofChange clockNarrowsWrong)

/-- 'viatorlaw26.ClockOrders': WHATEVER THE INPUT: true; the input reads as it did. -/
def clockOrdersSpec : ChangeSpec := { name := "clockOrders", fn := fun _ => fun
  | [d1, d2] => { results := [.lit (.bool true)], args := [d1, d2] }
  | _ => none }
def clockOrdersRow : OpenClaim := { program := "ytncogghlhlnmaaagreatdoor", sum := "264949a5f5215befc15c096a0aeee4e0c82be709a5b7a8cfa09b64eb5da713e3", func := "viator/viatorlaw26.ClockOrders", spec := "clockOrders", inPlace := ["internal/bytealg.abigen_runtime_cmpstring", "internal/bytealg.IndexByteString", "internal/bytealg.IndexString", "math/bits.Add64"], unfollowed := true, recurses := true, named := ["unicode/utf8.first", "unicode/utf8.acceptRanges", "internal/bytealg.MaxLen"], apart := false, laid := [("unicode/utf8.acceptRanges", laid_unicode_utf8_acceptRanges), ("unicode/utf8.first", laid_unicode_utf8_first)] }
def ClockOrdersSaid : Prop := clockOrdersRow.holds Tryz.pinned (OpenSpec.ofChange clockOrdersSpec)

/-- ITS FALSE NEIGHBOUR: 'it returns false'. Refute it at one input. -/
def clockOrdersWrong : ChangeSpec := { name := "clockOrders", fn := fun _ => fun
  | [d1, d2] => { results := [.lit (.bool false)], args := [d1, d2] }
  | _ => none }
def ClockOrdersWrongFalsely : Prop := clockOrdersRow.holds Tryz.pinned (OpenSpec.ofChange clockOrdersWrong)

/-- 'viatorlaw26.ClockCorrects': WHATEVER THE INPUT: true; the input reads as it did. -/
def clockCorrectsSpec : ChangeSpec := { name := "clockCorrects", fn := fun _ => fun
  | [d1, d2, d3] => { results := [.lit (.bool true)], args := [d1, d2, d3] }
  | _ => none }
def clockCorrectsRow : OpenClaim := { program := "ytncogghlhlnmaaagreatdoor", sum := "264949a5f5215befc15c096a0aeee4e0c82be709a5b7a8cfa09b64eb5da713e3", func := "viator/viatorlaw26.ClockCorrects", spec := "clockCorrects", inPlace := ["internal/bytealg.abigen_runtime_cmpstring", "internal/bytealg.IndexByteString", "internal/bytealg.IndexString", "math/bits.Add64"], unfollowed := true, recurses := true, named := ["unicode/utf8.first", "unicode/utf8.acceptRanges", "internal/bytealg.MaxLen"], apart := false, laid := [("unicode/utf8.acceptRanges", laid_unicode_utf8_acceptRanges), ("unicode/utf8.first", laid_unicode_utf8_first)] }
def ClockCorrectsSaid : Prop := clockCorrectsRow.holds Tryz.pinned (OpenSpec.ofChange clockCorrectsSpec)

/-- ITS FALSE NEIGHBOUR: 'it returns false'. Refute it at one input. -/
def clockCorrectsWrong : ChangeSpec := { name := "clockCorrects", fn := fun _ => fun
  | [d1, d2, d3] => { results := [.lit (.bool false)], args := [d1, d2, d3] }
  | _ => none }
def ClockCorrectsWrongFalsely : Prop := clockCorrectsRow.holds Tryz.pinned (OpenSpec.ofChange clockCorrectsWrong)

/-- 'viatorlaw26.ClockChecks': WHATEVER THE INPUT: true; the input reads as it did. -/
def clockChecksSpec : ChangeSpec := { name := "clockChecks", fn := fun _ => fun
  | [d1, d2] => { results := [.lit (.bool true)], args := [d1, d2] }
  | _ => none }
def clockChecksRow : OpenClaim := { program := "ytncogghlhlnmaaagreatdoor", sum := "264949a5f5215befc15c096a0aeee4e0c82be709a5b7a8cfa09b64eb5da713e3", func := "viator/viatorlaw26.ClockChecks", spec := "clockChecks", inPlace := ["internal/bytealg.abigen_runtime_cmpstring", "internal/bytealg.IndexByteString", "internal/bytealg.IndexString", "math/bits.Add64"], unfollowed := true, recurses := true, named := ["unicode/utf8.first", "unicode/utf8.acceptRanges", "internal/bytealg.MaxLen"], apart := false, laid := [("unicode/utf8.acceptRanges", laid_unicode_utf8_acceptRanges), ("unicode/utf8.first", laid_unicode_utf8_first)] }
def ClockChecksSaid : Prop := clockChecksRow.holds Tryz.pinned (OpenSpec.ofChange clockChecksSpec)

/-- ITS FALSE NEIGHBOUR: 'it returns false'. Refute it at one input. -/
def clockChecksWrong : ChangeSpec := { name := "clockChecks", fn := fun _ => fun
  | [d1, d2] => { results := [.lit (.bool false)], args := [d1, d2] }
  | _ => none }
def ClockChecksWrongFalsely : Prop := clockChecksRow.holds Tryz.pinned (OpenSpec.ofChange clockChecksWrong)

/-- 'viatorlaw26.ClockContains': WHATEVER THE INPUT: true; the input reads as it did. -/
def clockContainsSpec : ChangeSpec := { name := "clockContains", fn := fun _ => fun
  | [d] => { results := [.lit (.bool true)], args := [d] }
  | _ => none }
def clockContainsRow : OpenClaim := { program := "ytncogghlhlnmaaagreatdoor", sum := "264949a5f5215befc15c096a0aeee4e0c82be709a5b7a8cfa09b64eb5da713e3", func := "viator/viatorlaw26.ClockContains", spec := "clockContains", inPlace := ["internal/bytealg.abigen_runtime_cmpstring", "internal/bytealg.IndexByteString", "internal/bytealg.IndexString", "math/bits.Add64"], unfollowed := true, recurses := true, named := ["unicode/utf8.first", "unicode/utf8.acceptRanges", "internal/bytealg.MaxLen"], apart := false, laid := [("unicode/utf8.acceptRanges", laid_unicode_utf8_acceptRanges), ("unicode/utf8.first", laid_unicode_utf8_first)] }
def ClockContainsSaid : Prop := clockContainsRow.holds Tryz.pinned (OpenSpec.ofChange clockContainsSpec)

/-- ITS FALSE NEIGHBOUR: 'it returns false'. Refute it at one input. -/
def clockContainsWrong : ChangeSpec := { name := "clockContains", fn := fun _ => fun
  | [d] => { results := [.lit (.bool false)], args := [d] }
  | _ => none }
def ClockContainsWrongFalsely : Prop := clockContainsRow.holds Tryz.pinned (OpenSpec.ofChange clockContainsWrong)

/- THE SECOND FORM. 'bulk': how many values and letters a reading holds, each counted each time it is reached (what is shared counts as often as it is met; a slice's spare places count too). A statement '..UptoSaid' is the law's where the arguments, and the package variables that the reading takes, are together of bulk at most 1048576: NARROWER than '..Said'. Prove '..Said' where nothing that the law and all that it calls make is longer than what came in: it says more and counts as full. Else prove '..UptoSaid'. A law counts once. -/
mutual
def uptoBulk {H : Type} : DataW H → Nat
  | .lit (.string bytes) => bytes.length + 1
  | .lit _ => 1
  | .nil => 1
  | .ptr d => uptoBulk d + 1
  | .slice elems spare => uptoBulkAll elems + uptoBulkAll spare + 1
  | .agg parts => uptoBulkAll parts + 1
  | .iface _ d => uptoBulk d + 1
  | .map entries => uptoBulkEntries entries + 1
  | .held _ => 1
def uptoBulkAll {H : Type} : List (DataW H) → Nat
  | [] => 0
  | d :: r => uptoBulk d + uptoBulkAll r
def uptoBulkEntries {H : Type} : List (Lit × DataW H) → Nat
  | [] => 0
  | x :: r => uptoBulkEntry x + uptoBulkEntries r
def uptoBulkEntry {H : Type} : Lit × DataW H → Nat
  | (.string bytes, d) => bytes.length + uptoBulk d + 1
  | (_, d) => uptoBulk d + 1
 end
def uptoSmall : (H : Type) → List (DataW H) → Bool := fun _ ds => decide (uptoBulkAll ds ≤ 1048576)
def OpenSpec.upto (s : _root_.Go.ChangeSpec) : _root_.Go.OpenSpec := { _root_.Go.OpenSpec.ofChange s with cond := some uptoSmall }

/-- 'viatorlaw26.ClockOffsets', WHERE WHAT IT READS IS OF BULK AT MOST 1048576: true; the input reads as it did. -/
def clockOffsetsUptoRow : OpenClaim := { program := "ytncogghlhlnmaaagreatdoor", sum := "264949a5f5215befc15c096a0aeee4e0c82be709a5b7a8cfa09b64eb5da713e3", func := "viator/viatorlaw26.ClockOffsets", spec := "clockOffsets", inPlace := ["internal/bytealg.abigen_runtime_cmpstring", "internal/bytealg.IndexByteString", "internal/bytealg.IndexString", "math/bits.Add64"], unfollowed := true, recurses := true, named := ["unicode/utf8.first", "unicode/utf8.acceptRanges", "internal/bytealg.MaxLen"], apart := false, laid := [("unicode/utf8.acceptRanges", laid_unicode_utf8_acceptRanges), ("unicode/utf8.first", laid_unicode_utf8_first)], narrowed := true }
def ClockOffsetsUptoSaid : Prop := clockOffsetsUptoRow.holds Tryz.pinned (OpenSpec.upto clockOffsetsSpec)

/-- 'viatorlaw26.ClockChains', WHERE WHAT IT READS IS OF BULK AT MOST 1048576: true; the input reads as it did. -/
def clockChainsUptoRow : OpenClaim := { program := "ytncogghlhlnmaaagreatdoor", sum := "264949a5f5215befc15c096a0aeee4e0c82be709a5b7a8cfa09b64eb5da713e3", func := "viator/viatorlaw26.ClockChains", spec := "clockChains", inPlace := ["internal/bytealg.abigen_runtime_cmpstring", "internal/bytealg.IndexByteString", "internal/bytealg.IndexString", "math/bits.Add64"], unfollowed := true, recurses := true, named := ["unicode/utf8.first", "unicode/utf8.acceptRanges", "internal/bytealg.MaxLen"], apart := false, laid := [("unicode/utf8.acceptRanges", laid_unicode_utf8_acceptRanges), ("unicode/utf8.first", laid_unicode_utf8_first)], narrowed := true }
def ClockChainsUptoSaid : Prop := clockChainsUptoRow.holds Tryz.pinned (OpenSpec.upto clockChainsSpec)

/-- 'viatorlaw26.ClockSums', WHERE WHAT IT READS IS OF BULK AT MOST 1048576: true; the input reads as it did. -/
def clockSumsUptoRow : OpenClaim := { program := "ytncogghlhlnmaaagreatdoor", sum := "264949a5f5215befc15c096a0aeee4e0c82be709a5b7a8cfa09b64eb5da713e3", func := "viator/viatorlaw26.ClockSums", spec := "clockSums", inPlace := ["internal/bytealg.abigen_runtime_cmpstring", "internal/bytealg.IndexByteString", "internal/bytealg.IndexString", "math/bits.Add64"], unfollowed := true, recurses := true, named := ["unicode/utf8.first", "unicode/utf8.acceptRanges", "internal/bytealg.MaxLen"], apart := false, laid := [("unicode/utf8.acceptRanges", laid_unicode_utf8_acceptRanges), ("unicode/utf8.first", laid_unicode_utf8_first)], narrowed := true }
def ClockSumsUptoSaid : Prop := clockSumsUptoRow.holds Tryz.pinned (OpenSpec.upto clockSumsSpec)

/-- 'viatorlaw26.ClockCycles', WHERE WHAT IT READS IS OF BULK AT MOST 1048576: true; the input reads as it did. -/
def clockCyclesUptoRow : OpenClaim := { program := "ytncogghlhlnmaaagreatdoor", sum := "264949a5f5215befc15c096a0aeee4e0c82be709a5b7a8cfa09b64eb5da713e3", func := "viator/viatorlaw26.ClockCycles", spec := "clockCycles", inPlace := ["internal/bytealg.abigen_runtime_cmpstring", "internal/bytealg.IndexByteString", "internal/bytealg.IndexString", "math/bits.Add64"], unfollowed := true, recurses := true, named := ["unicode/utf8.first", "unicode/utf8.acceptRanges", "internal/bytealg.MaxLen"], apart := false, laid := [("unicode/utf8.acceptRanges", laid_unicode_utf8_acceptRanges), ("unicode/utf8.first", laid_unicode_utf8_first)], narrowed := true }
def ClockCyclesUptoSaid : Prop := clockCyclesUptoRow.holds Tryz.pinned (OpenSpec.upto clockCyclesSpec)

/-- 'viatorlaw26.ClockNarrows', WHERE WHAT IT READS IS OF BULK AT MOST 1048576: true; the input reads as it did. -/
def clockNarrowsUptoRow : OpenClaim := { program := "ytncogghlhlnmaaagreatdoor", sum := "264949a5f5215befc15c096a0aeee4e0c82be709a5b7a8cfa09b64eb5da713e3", func := "viator/viatorlaw26.ClockNarrows", spec := "clockNarrows", inPlace := ["internal/bytealg.abigen_runtime_cmpstring", "internal/bytealg.IndexByteString", "internal/bytealg.IndexString", "math/bits.Add64"], unfollowed := true, recurses := true, named := ["unicode/utf8.first", "unicode/utf8.acceptRanges", "internal/bytealg.MaxLen"], apart := false, laid := [("unicode/utf8.acceptRanges", laid_unicode_utf8_acceptRanges), ("unicode/utf8.first", laid_unicode_utf8_first)], narrowed := true }
def ClockNarrowsUptoSaid : Prop := clockNarrowsUptoRow.holds Tryz.pinned (OpenSpec.upto clockNarrowsSpec)

/-- 'viatorlaw26.ClockOrders', WHERE WHAT IT READS IS OF BULK AT MOST 1048576: true; the input reads as it did. -/
def clockOrdersUptoRow : OpenClaim := { program := "ytncogghlhlnmaaagreatdoor", sum := "264949a5f5215befc15c096a0aeee4e0c82be709a5b7a8cfa09b64eb5da713e3", func := "viator/viatorlaw26.ClockOrders", spec := "clockOrders", inPlace := ["internal/bytealg.abigen_runtime_cmpstring", "internal/bytealg.IndexByteString", "internal/bytealg.IndexString", "math/bits.Add64"], unfollowed := true, recurses := true, named := ["unicode/utf8.first", "unicode/utf8.acceptRanges", "internal/bytealg.MaxLen"], apart := false, laid := [("unicode/utf8.acceptRanges", laid_unicode_utf8_acceptRanges), ("unicode/utf8.first", laid_unicode_utf8_first)], narrowed := true }
def ClockOrdersUptoSaid : Prop := clockOrdersUptoRow.holds Tryz.pinned (OpenSpec.upto clockOrdersSpec)

/-- 'viatorlaw26.ClockCorrects', WHERE WHAT IT READS IS OF BULK AT MOST 1048576: true; the input reads as it did. -/
def clockCorrectsUptoRow : OpenClaim := { program := "ytncogghlhlnmaaagreatdoor", sum := "264949a5f5215befc15c096a0aeee4e0c82be709a5b7a8cfa09b64eb5da713e3", func := "viator/viatorlaw26.ClockCorrects", spec := "clockCorrects", inPlace := ["internal/bytealg.abigen_runtime_cmpstring", "internal/bytealg.IndexByteString", "internal/bytealg.IndexString", "math/bits.Add64"], unfollowed := true, recurses := true, named := ["unicode/utf8.first", "unicode/utf8.acceptRanges", "internal/bytealg.MaxLen"], apart := false, laid := [("unicode/utf8.acceptRanges", laid_unicode_utf8_acceptRanges), ("unicode/utf8.first", laid_unicode_utf8_first)], narrowed := true }
def ClockCorrectsUptoSaid : Prop := clockCorrectsUptoRow.holds Tryz.pinned (OpenSpec.upto clockCorrectsSpec)

/-- 'viatorlaw26.ClockChecks', WHERE WHAT IT READS IS OF BULK AT MOST 1048576: true; the input reads as it did. -/
def clockChecksUptoRow : OpenClaim := { program := "ytncogghlhlnmaaagreatdoor", sum := "264949a5f5215befc15c096a0aeee4e0c82be709a5b7a8cfa09b64eb5da713e3", func := "viator/viatorlaw26.ClockChecks", spec := "clockChecks", inPlace := ["internal/bytealg.abigen_runtime_cmpstring", "internal/bytealg.IndexByteString", "internal/bytealg.IndexString", "math/bits.Add64"], unfollowed := true, recurses := true, named := ["unicode/utf8.first", "unicode/utf8.acceptRanges", "internal/bytealg.MaxLen"], apart := false, laid := [("unicode/utf8.acceptRanges", laid_unicode_utf8_acceptRanges), ("unicode/utf8.first", laid_unicode_utf8_first)], narrowed := true }
def ClockChecksUptoSaid : Prop := clockChecksUptoRow.holds Tryz.pinned (OpenSpec.upto clockChecksSpec)

/-- 'viatorlaw26.ClockContains', WHERE WHAT IT READS IS OF BULK AT MOST 1048576: true; the input reads as it did. -/
def clockContainsUptoRow : OpenClaim := { program := "ytncogghlhlnmaaagreatdoor", sum := "264949a5f5215befc15c096a0aeee4e0c82be709a5b7a8cfa09b64eb5da713e3", func := "viator/viatorlaw26.ClockContains", spec := "clockContains", inPlace := ["internal/bytealg.abigen_runtime_cmpstring", "internal/bytealg.IndexByteString", "internal/bytealg.IndexString", "math/bits.Add64"], unfollowed := true, recurses := true, named := ["unicode/utf8.first", "unicode/utf8.acceptRanges", "internal/bytealg.MaxLen"], apart := false, laid := [("unicode/utf8.acceptRanges", laid_unicode_utf8_acceptRanges), ("unicode/utf8.first", laid_unicode_utf8_first)], narrowed := true }
def ClockContainsUptoSaid : Prop := clockContainsUptoRow.holds Tryz.pinned (OpenSpec.upto clockContainsSpec)

end Rows
end Go.Proofs.YtncogghlhlnmaaaGreatDoor
