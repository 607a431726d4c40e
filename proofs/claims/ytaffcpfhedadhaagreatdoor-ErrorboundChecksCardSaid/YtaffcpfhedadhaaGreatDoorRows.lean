/-
  NARROWER THAN 'FOR EVERY INPUT', by the rows' own cells (each row's printed sentence says how): ErrorboundProves: laid · ErrorboundHolds: laid · ErrorboundChecks: laid · ErrorboundDivides: laid · ErrorboundCertifies: laid · ErrorboundMost: laid · ErrorboundBounds: laid · ErrorboundJoins: laid.
  DERIVED. THE GIVEN ROWS OF THIS SEAT. 8 by the template 'for every input the law returns true; each argument reads behind the call as it read before'; 0 by the template 'total and deterministic' (their statements: YtaffcpfhedadhaaGreatDoorTotals.lean).
  GIVEN WITH THE SEED: the statements are not yours to turn. If you find one false, say at which input.
  Laid BY PROGRAM, IN A SANDBOX (cutbox-rows.mjs): the forced cells as the released guide's own fill.sh prints them over the translation 8396fd12dd57c2b7… (all of the seat's roots in one cut). By AI agents, Wed Nov 11 2026. No macro, syntax, notation, axiom, sorry.
-/
import Derived.Test.YtaffcpfhedadhaaGreatDoorChecked
import GoSem.PinnedTables
import GoSem.Claim
import GoSem.ClaimJoined
import GoSem.ClaimMapViews
import Derived.JoinedTies
import Derived.KernelRfl
namespace Go.Proofs.YtaffcpfhedadhaaGreatDoor
/- THE CELL 'sum', in the pinned program and in every row, IS THE sha256 OF THE DUMP (.gsa) THAT YtaffcpfhedadhaaGreatDoorProg.lean LOADS. Nothing in Lean hashes anything: it is a label: what it is worth is what the hold of that sum in a sandbox is worth. -/
noncomputable def Tryz.pinned : Pinned := { name := "ytaffcpfhedadhaagreatdoor", sum := "8396fd12dd57c2b702f3a7a06745d9d7976733e6072bb00e900e732aee8b0c05", checked := Tryz.checked }
namespace Rows
def none {H : Type} : Left H := { results := [], args := [] }

/- WHAT THE LISTED PACKAGE-LEVEL VARIABLES READ AS WHEN THE CALL BEGINS. Each datum BY PROGRAM (the guide's laid-datum.mjs) off the statement by which the dump's own 'gosem.cut.vars' lays the variable. In a bare row this is a premise. The card (YtaffcpfhedadhaaGreatDoorCards.lean) ties it to the program's text. -/
def laid_unicode_utf8_acceptRanges {H : Type} : DataW H := .agg [.agg [.lit (.int .u8 128), .lit (.int .u8 191)], .agg [.lit (.int .u8 160), .lit (.int .u8 191)], .agg [.lit (.int .u8 128), .lit (.int .u8 159)], .agg [.lit (.int .u8 144), .lit (.int .u8 191)], .agg [.lit (.int .u8 128), .lit (.int .u8 143)], .agg [.lit (.int .u8 0), .lit (.int .u8 0)], .agg [.lit (.int .u8 0), .lit (.int .u8 0)], .agg [.lit (.int .u8 0), .lit (.int .u8 0)], .agg [.lit (.int .u8 0), .lit (.int .u8 0)], .agg [.lit (.int .u8 0), .lit (.int .u8 0)], .agg [.lit (.int .u8 0), .lit (.int .u8 0)], .agg [.lit (.int .u8 0), .lit (.int .u8 0)], .agg [.lit (.int .u8 0), .lit (.int .u8 0)], .agg [.lit (.int .u8 0), .lit (.int .u8 0)], .agg [.lit (.int .u8 0), .lit (.int .u8 0)], .agg [.lit (.int .u8 0), .lit (.int .u8 0)]]
/-- One of Go's own tables, pinned by name: the form's constant. -/
def laid_unicode_utf8_first : DataW Unit := Go.Pinned.utf8First

/-- 'viatorlaw32.ErrorboundProves': WHATEVER THE INPUT: true; the input reads as it did. -/
def errorboundProvesSpec : ChangeSpec := { name := "errorboundProves", fn := fun _ => fun
  | [d] => { results := [.lit (.bool true)], args := [d] }
  | _ => none }
def errorboundProvesRow : OpenClaim := { program := "ytaffcpfhedadhaagreatdoor", sum := "8396fd12dd57c2b702f3a7a06745d9d7976733e6072bb00e900e732aee8b0c05", func := "viator/viatorlaw32.ErrorboundProves", spec := "errorboundProves", inPlace := ["internal/bytealg.IndexByteString", "internal/bytealg.IndexString", "math/bits.Add64", "internal/bytealg.abigen_runtime_cmpstring", "internal/abi.NoEscape", "internal/bytealg.MakeNoZero"], unfollowed := true, recurses := true, named := ["unicode/utf8.first", "unicode/utf8.acceptRanges", "internal/bytealg.MaxLen"], apart := false, laid := [("unicode/utf8.acceptRanges", laid_unicode_utf8_acceptRanges), ("unicode/utf8.first", laid_unicode_utf8_first)] }
def ErrorboundProvesSaid : Prop := errorboundProvesRow.holds Tryz.pinned (OpenSpec.ofChange errorboundProvesSpec)

/-- ITS FALSE NEIGHBOUR: 'it returns false'. Refute it at one input. -/
def errorboundProvesWrong : ChangeSpec := { name := "errorboundProves", fn := fun _ => fun
  | [d] => { results := [.lit (.bool false)], args := [d] }
  | _ => none }
def ErrorboundProvesWrongFalsely : Prop := errorboundProvesRow.holds Tryz.pinned (OpenSpec.ofChange errorboundProvesWrong)

/-- 'viatorlaw32.ErrorboundHolds': WHATEVER THE INPUT: true; the input reads as it did. -/
def errorboundHoldsSpec : ChangeSpec := { name := "errorboundHolds", fn := fun _ => fun
  | [d1, d2] => { results := [.lit (.bool true)], args := [d1, d2] }
  | _ => none }
def errorboundHoldsRow : OpenClaim := { program := "ytaffcpfhedadhaagreatdoor", sum := "8396fd12dd57c2b702f3a7a06745d9d7976733e6072bb00e900e732aee8b0c05", func := "viator/viatorlaw32.ErrorboundHolds", spec := "errorboundHolds", inPlace := ["internal/bytealg.IndexByteString", "internal/bytealg.IndexString", "math/bits.Add64", "internal/bytealg.abigen_runtime_cmpstring", "internal/abi.NoEscape", "internal/bytealg.MakeNoZero"], unfollowed := true, recurses := true, named := ["unicode/utf8.first", "unicode/utf8.acceptRanges", "internal/bytealg.MaxLen"], apart := false, laid := [("unicode/utf8.acceptRanges", laid_unicode_utf8_acceptRanges), ("unicode/utf8.first", laid_unicode_utf8_first)] }
def ErrorboundHoldsSaid : Prop := errorboundHoldsRow.holds Tryz.pinned (OpenSpec.ofChange errorboundHoldsSpec)

/-- ITS FALSE NEIGHBOUR: 'it returns false'. Refute it at one input. -/
def errorboundHoldsWrong : ChangeSpec := { name := "errorboundHolds", fn := fun _ => fun
  | [d1, d2] => { results := [.lit (.bool false)], args := [d1, d2] }
  | _ => none }
def ErrorboundHoldsWrongFalsely : Prop := errorboundHoldsRow.holds Tryz.pinned (OpenSpec.ofChange errorboundHoldsWrong)

/-- 'viatorlaw32.ErrorboundChecks': WHATEVER THE INPUT: true; the input reads as it did. -/
def errorboundChecksSpec : ChangeSpec := { name := "errorboundChecks", fn := fun _ => fun
  | [d1, d2] => { results := [.lit (.bool true)], args := [d1, d2] }
  | _ => none }
def errorboundChecksRow : OpenClaim := { program := "ytaffcpfhedadhaagreatdoor", sum := "8396fd12dd57c2b702f3a7a06745d9d7976733e6072bb00e900e732aee8b0c05", func := "viator/viatorlaw32.ErrorboundChecks", spec := "errorboundChecks", inPlace := ["internal/bytealg.IndexByteString", "internal/bytealg.IndexString", "math/bits.Add64", "internal/bytealg.abigen_runtime_cmpstring", "internal/abi.NoEscape", "internal/bytealg.MakeNoZero"], unfollowed := true, recurses := true, named := ["unicode/utf8.first", "unicode/utf8.acceptRanges", "internal/bytealg.MaxLen"], apart := false, laid := [("unicode/utf8.acceptRanges", laid_unicode_utf8_acceptRanges), ("unicode/utf8.first", laid_unicode_utf8_first)] }
def ErrorboundChecksSaid : Prop := errorboundChecksRow.holds Tryz.pinned (OpenSpec.ofChange errorboundChecksSpec)

/-- ITS FALSE NEIGHBOUR: 'it returns false'. Refute it at one input. -/
def errorboundChecksWrong : ChangeSpec := { name := "errorboundChecks", fn := fun _ => fun
  | [d1, d2] => { results := [.lit (.bool false)], args := [d1, d2] }
  | _ => none }
def ErrorboundChecksWrongFalsely : Prop := errorboundChecksRow.holds Tryz.pinned (OpenSpec.ofChange errorboundChecksWrong)

/-- 'viatorlaw32.ErrorboundDivides': WHATEVER THE INPUT: true; the input reads as it did. -/
def errorboundDividesSpec : ChangeSpec := { name := "errorboundDivides", fn := fun _ => fun
  | [d1, d2] => { results := [.lit (.bool true)], args := [d1, d2] }
  | _ => none }
def errorboundDividesRow : OpenClaim := { program := "ytaffcpfhedadhaagreatdoor", sum := "8396fd12dd57c2b702f3a7a06745d9d7976733e6072bb00e900e732aee8b0c05", func := "viator/viatorlaw32.ErrorboundDivides", spec := "errorboundDivides", inPlace := ["internal/bytealg.IndexByteString", "internal/bytealg.IndexString", "math/bits.Add64", "internal/bytealg.abigen_runtime_cmpstring", "internal/abi.NoEscape", "internal/bytealg.MakeNoZero"], unfollowed := true, recurses := true, named := ["unicode/utf8.first", "unicode/utf8.acceptRanges", "internal/bytealg.MaxLen"], apart := false, laid := [("unicode/utf8.acceptRanges", laid_unicode_utf8_acceptRanges), ("unicode/utf8.first", laid_unicode_utf8_first)] }
def ErrorboundDividesSaid : Prop := errorboundDividesRow.holds Tryz.pinned (OpenSpec.ofChange errorboundDividesSpec)

/-- ITS FALSE NEIGHBOUR: 'it returns false'. Refute it at one input. -/
def errorboundDividesWrong : ChangeSpec := { name := "errorboundDivides", fn := fun _ => fun
  | [d1, d2] => { results := [.lit (.bool false)], args := [d1, d2] }
  | _ => none }
def ErrorboundDividesWrongFalsely : Prop := errorboundDividesRow.holds Tryz.pinned (OpenSpec.ofChange errorboundDividesWrong)

/-- 'viatorlaw32.ErrorboundCertifies': WHATEVER THE INPUT: true; the input reads as it did. -/
def errorboundCertifiesSpec : ChangeSpec := { name := "errorboundCertifies", fn := fun _ => fun
  | [d1, d2] => { results := [.lit (.bool true)], args := [d1, d2] }
  | _ => none }
def errorboundCertifiesRow : OpenClaim := { program := "ytaffcpfhedadhaagreatdoor", sum := "8396fd12dd57c2b702f3a7a06745d9d7976733e6072bb00e900e732aee8b0c05", func := "viator/viatorlaw32.ErrorboundCertifies", spec := "errorboundCertifies", inPlace := ["internal/bytealg.IndexByteString", "internal/bytealg.IndexString", "math/bits.Add64", "internal/bytealg.abigen_runtime_cmpstring", "internal/abi.NoEscape", "internal/bytealg.MakeNoZero"], unfollowed := true, recurses := true, named := ["unicode/utf8.first", "unicode/utf8.acceptRanges", "internal/bytealg.MaxLen"], apart := false, laid := [("unicode/utf8.acceptRanges", laid_unicode_utf8_acceptRanges), ("unicode/utf8.first", laid_unicode_utf8_first)] }
def ErrorboundCertifiesSaid : Prop := errorboundCertifiesRow.holds Tryz.pinned (OpenSpec.ofChange errorboundCertifiesSpec)

/-- ITS FALSE NEIGHBOUR: 'it returns false'. Refute it at one input. -/
def errorboundCertifiesWrong : ChangeSpec := { name := "errorboundCertifies", fn := fun _ => fun
  | [d1, d2] => { results := [.lit (.bool false)], args := [d1, d2] }
  | _ => none }
def ErrorboundCertifiesWrongFalsely : Prop := errorboundCertifiesRow.holds Tryz.pinned (OpenSpec.ofChange errorboundCertifiesWrong)

/-- 'viatorlaw32.ErrorboundMost': WHATEVER THE INPUT: true; the input reads as it did. -/
def errorboundMostSpec : ChangeSpec := { name := "errorboundMost", fn := fun _ => fun
  | [d] => { results := [.lit (.bool true)], args := [d] }
  | _ => none }
def errorboundMostRow : OpenClaim := { program := "ytaffcpfhedadhaagreatdoor", sum := "8396fd12dd57c2b702f3a7a06745d9d7976733e6072bb00e900e732aee8b0c05", func := "viator/viatorlaw32.ErrorboundMost", spec := "errorboundMost", inPlace := ["internal/bytealg.IndexByteString", "internal/bytealg.IndexString", "math/bits.Add64", "internal/bytealg.abigen_runtime_cmpstring", "internal/abi.NoEscape", "internal/bytealg.MakeNoZero"], unfollowed := true, recurses := true, named := ["unicode/utf8.first", "unicode/utf8.acceptRanges", "internal/bytealg.MaxLen"], apart := false, laid := [("unicode/utf8.acceptRanges", laid_unicode_utf8_acceptRanges), ("unicode/utf8.first", laid_unicode_utf8_first)] }
def ErrorboundMostSaid : Prop := errorboundMostRow.holds Tryz.pinned (OpenSpec.ofChange errorboundMostSpec)

/-- ITS FALSE NEIGHBOUR: 'it returns false'. Refute it at one input. -/
def errorboundMostWrong : ChangeSpec := { name := "errorboundMost", fn := fun _ => fun
  | [d] => { results := [.lit (.bool false)], args := [d] }
  | _ => none }
def ErrorboundMostWrongFalsely : Prop := errorboundMostRow.holds Tryz.pinned (OpenSpec.ofChange errorboundMostWrong)

/-- 'viatorlaw32.ErrorboundBounds': WHATEVER THE INPUT: true; the input reads as it did. -/
def errorboundBoundsSpec : ChangeSpec := { name := "errorboundBounds", fn := fun _ => fun
  | [d1, d2] => { results := [.lit (.bool true)], args := [d1, d2] }
  | _ => none }
def errorboundBoundsRow : OpenClaim := { program := "ytaffcpfhedadhaagreatdoor", sum := "8396fd12dd57c2b702f3a7a06745d9d7976733e6072bb00e900e732aee8b0c05", func := "viator/viatorlaw32.ErrorboundBounds", spec := "errorboundBounds", inPlace := ["internal/bytealg.IndexByteString", "internal/bytealg.IndexString", "math/bits.Add64", "internal/bytealg.abigen_runtime_cmpstring", "internal/abi.NoEscape", "internal/bytealg.MakeNoZero"], unfollowed := true, recurses := true, named := ["unicode/utf8.first", "unicode/utf8.acceptRanges", "internal/bytealg.MaxLen"], apart := false, laid := [("unicode/utf8.acceptRanges", laid_unicode_utf8_acceptRanges), ("unicode/utf8.first", laid_unicode_utf8_first)] }
def ErrorboundBoundsSaid : Prop := errorboundBoundsRow.holds Tryz.pinned (OpenSpec.ofChange errorboundBoundsSpec)

/-- ITS FALSE NEIGHBOUR: 'it returns false'. Refute it at one input. -/
def errorboundBoundsWrong : ChangeSpec := { name := "errorboundBounds", fn := fun _ => fun
  | [d1, d2] => { results := [.lit (.bool false)], args := [d1, d2] }
  | _ => none }
def ErrorboundBoundsWrongFalsely : Prop := errorboundBoundsRow.holds Tryz.pinned (OpenSpec.ofChange errorboundBoundsWrong)

/-- 'viatorlaw32.ErrorboundJoins': WHATEVER THE INPUT: true; the input reads as it did. -/
def errorboundJoinsSpec : ChangeSpec := { name := "errorboundJoins", fn := fun _ => fun
  | [d1, d2] => { results := [.lit (.bool true)], args := [d1, d2] }
  | _ => none }
def errorboundJoinsRow : OpenClaim := { program := "ytaffcpfhedadhaagreatdoor", sum := "8396fd12dd57c2b702f3a7a06745d9d7976733e6072bb00e900e732aee8b0c05", func := "viator/viatorlaw32.ErrorboundJoins", spec := "errorboundJoins", inPlace := ["internal/bytealg.IndexByteString", "internal/bytealg.IndexString", "math/bits.Add64", "internal/bytealg.abigen_runtime_cmpstring", "internal/abi.NoEscape", "internal/bytealg.MakeNoZero"], unfollowed := true, recurses := true, named := ["unicode/utf8.first", "unicode/utf8.acceptRanges", "internal/bytealg.MaxLen"], apart := false, laid := [("unicode/utf8.acceptRanges", laid_unicode_utf8_acceptRanges), ("unicode/utf8.first", laid_unicode_utf8_first)] }
def ErrorboundJoinsSaid : Prop := errorboundJoinsRow.holds Tryz.pinned (OpenSpec.ofChange errorboundJoinsSpec)

/-- ITS FALSE NEIGHBOUR: 'it returns false'. Refute it at one input. -/
def errorboundJoinsWrong : ChangeSpec := { name := "errorboundJoins", fn := fun _ => fun
  | [d1, d2] => { results := [.lit (.bool false)], args := [d1, d2] }
  | _ => none }
def ErrorboundJoinsWrongFalsely : Prop := errorboundJoinsRow.holds Tryz.pinned (OpenSpec.ofChange errorboundJoinsWrong)

/- THE SECOND FORM. 'bulk': how many values and letters a reading holds, each counted each time it is reached (what is shared counts as often as it is met; a slice's spare places count too). A statement '..UptoSaid' is the law's where the arguments, and the package variables that the reading takes, are together of bulk at most 1048576: NARROWER than '..Said'. Prove '..Said' where nothing that the law and all that it calls make is longer than what came in: it says more and counts as full. Else prove '..UptoSaid'. A law counts once. -/
mutual
def uptoBulk {H : Type} : DataW H → Nat
  | .lit (.string bytes) => bytes.length + 1
  | .lit _ => 1
  | .nil => 1
  | .ptr d => uptoBulk d + 1
  | .slice elems spare => uptoBulkAll elems + uptoBulkAll spare + 1
  | .agg parts => uptoBulkAll parts + 1
  | .iface _ d => uptoBulk d + 1
  | .map entries => uptoBulkEntries entries + 1
  | .held _ => 1
def uptoBulkAll {H : Type} : List (DataW H) → Nat
  | [] => 0
  | d :: r => uptoBulk d + uptoBulkAll r
def uptoBulkEntries {H : Type} : List (Lit × DataW H) → Nat
  | [] => 0
  | x :: r => uptoBulkEntry x + uptoBulkEntries r
def uptoBulkEntry {H : Type} : Lit × DataW H → Nat
  | (.string bytes, d) => bytes.length + uptoBulk d + 1
  | (_, d) => uptoBulk d + 1
 end
def uptoSmall : (H : Type) → List (DataW H) → Bool := fun _ ds => decide (uptoBulkAll ds ≤ 1048576)
def OpenSpec.upto (s : _root_.Go.ChangeSpec) : _root_.Go.OpenSpec := { _root_.Go.OpenSpec.ofChange s with cond := some uptoSmall }

/-- 'viatorlaw32.ErrorboundProves', WHERE WHAT IT READS IS OF BULK AT MOST 1048576: true; the input reads as it did. -/
def errorboundProvesUptoRow : OpenClaim := { program := "ytaffcpfhedadhaagreatdoor", sum := "8396fd12dd57c2b702f3a7a06745d9d7976733e6072bb00e900e732aee8b0c05", func := "viator/viatorlaw32.ErrorboundProves", spec := "errorboundProves", inPlace := ["internal/bytealg.IndexByteString", "internal/bytealg.IndexString", "math/bits.Add64", "internal/bytealg.abigen_runtime_cmpstring", "internal/abi.NoEscape", "internal/bytealg.MakeNoZero"], unfollowed := true, recurses := true, named := ["unicode/utf8.first", "unicode/utf8.acceptRanges", "internal/bytealg.MaxLen"], apart := false, laid := [("unicode/utf8.acceptRanges", laid_unicode_utf8_acceptRanges), ("unicode/utf8.first", laid_unicode_utf8_first)], narrowed := true }
def ErrorboundProvesUptoSaid : Prop := errorboundProvesUptoRow.holds Tryz.pinned (OpenSpec.upto errorboundProvesSpec)

/-- 'viatorlaw32.ErrorboundHolds', WHERE WHAT IT READS IS OF BULK AT MOST 1048576: true; the input reads as it did. -/
def errorboundHoldsUptoRow : OpenClaim := { program := "ytaffcpfhedadhaagreatdoor", sum := "8396fd12dd57c2b702f3a7a06745d9d7976733e6072bb00e900e732aee8b0c05", func := "viator/viatorlaw32.ErrorboundHolds", spec := "errorboundHolds", inPlace := ["internal/bytealg.IndexByteString", "internal/bytealg.IndexString", "math/bits.Add64", "internal/bytealg.abigen_runtime_cmpstring", "internal/abi.NoEscape", "internal/bytealg.MakeNoZero"], unfollowed := true, recurses := true, named := ["unicode/utf8.first", "unicode/utf8.acceptRanges", "internal/bytealg.MaxLen"], apart := false, laid := [("unicode/utf8.acceptRanges", laid_unicode_utf8_acceptRanges), ("unicode/utf8.first", laid_unicode_utf8_first)], narrowed := true }
def ErrorboundHoldsUptoSaid : Prop := errorboundHoldsUptoRow.holds Tryz.pinned (OpenSpec.upto errorboundHoldsSpec)

/-- 'viatorlaw32.ErrorboundChecks', WHERE WHAT IT READS IS OF BULK AT MOST 1048576: true; the input reads as it did. -/
def errorboundChecksUptoRow : OpenClaim := { program := "ytaffcpfhedadhaagreatdoor", sum := "8396fd12dd57c2b702f3a7a06745d9d7976733e6072bb00e900e732aee8b0c05", func := "viator/viatorlaw32.ErrorboundChecks", spec := "errorboundChecks", inPlace := ["internal/bytealg.IndexByteString", "internal/bytealg.IndexString", "math/bits.Add64", "internal/bytealg.abigen_runtime_cmpstring", "internal/abi.NoEscape", "internal/bytealg.MakeNoZero"], unfollowed := true, recurses := true, named := ["unicode/utf8.first", "unicode/utf8.acceptRanges", "internal/bytealg.MaxLen"], apart := false, laid := [("unicode/utf8.acceptRanges", laid_unicode_utf8_acceptRanges), ("unicode/utf8.first", laid_unicode_utf8_first)], narrowed := true }
def ErrorboundChecksUptoSaid : Prop := errorboundChecksUptoRow.holds Tryz.pinned (OpenSpec.upto errorboundChecksSpec)

/-- 'viatorlaw32.ErrorboundDivides', WHERE WHAT IT READS IS OF BULK AT MOST 1048576: true; the input reads as it did. -/
def errorboundDividesUptoRow : OpenClaim := { program := "ytaffcpfhedadhaagreatdoor", sum := "8396fd12dd57c2b702f3a7a06745d9d7976733e6072bb00e900e732aee8b0c05", func := "viator/viatorlaw32.ErrorboundDivides", spec := "errorboundDivides", inPlace := ["internal/bytealg.IndexByteString", "internal/bytealg.IndexString", "math/bits.Add64", "internal/bytealg.abigen_runtime_cmpstring", "internal/abi.NoEscape", "internal/bytealg.MakeNoZero"], unfollowed := true, recurses := true, named := ["unicode/utf8.first", "unicode/utf8.acceptRanges", "internal/bytealg.MaxLen"], apart := false, laid := [("unicode/utf8.acceptRanges", laid_unicode_utf8_acceptRanges), ("unicode/utf8.first", laid_unicode_utf8_first)], narrowed := true }
def ErrorboundDividesUptoSaid : Prop := errorboundDividesUptoRow.holds Tryz.pinned (OpenSpec.upto errorboundDividesSpec)

/-- 'viatorlaw32.ErrorboundCertifies', WHERE WHAT IT READS IS OF BULK AT MOST 1048576: true; the input reads as it did. -/
def errorboundCertifiesUptoRow : OpenClaim := { program := "ytaffcpfhedadhaagreatdoor", sum := "8396fd12dd57c2b702f3a7a06745d9d7976733e6072bb00e900e732aee8b0c05", func := "viator/viatorlaw32.ErrorboundCertifies", spec := "errorboundCertifies", inPlace := ["internal/bytealg.IndexByteString", "internal/bytealg.IndexString", "math/bits.Add64", "internal/bytealg.abigen_runtime_cmpstring", "internal/abi.NoEscape", "internal/bytealg.MakeNoZero"], unfollowed := true, recurses := true, named := ["unicode/utf8.first", "unicode/utf8.acceptRanges", "internal/bytealg.MaxLen"], apart := false, laid := [("unicode/utf8.acceptRanges", laid_unicode_utf8_acceptRanges), ("unicode/utf8.first", laid_unicode_utf8_first)], narrowed := true }
def ErrorboundCertifiesUptoSaid : Prop := errorboundCertifiesUptoRow.holds Tryz.pinned (OpenSpec.upto errorboundCertifiesSpec)

/-- 'viatorlaw32.ErrorboundMost', WHERE WHAT IT READS IS OF BULK AT MOST 1048576: true; the input reads as it did. -/
def errorboundMostUptoRow : OpenClaim := { program := "ytaffcpfhedadhaagreatdoor", sum := "8396fd12dd57c2b702f3a7a06745d9d7976733e6072bb00e900e732aee8b0c05", func := "viator/viatorlaw32.ErrorboundMost", spec := "errorboundMost", inPlace := ["internal/bytealg.IndexByteString", "internal/bytealg.IndexString", "math/bits.Add64", "internal/bytealg.abigen_runtime_cmpstring", "internal/abi.NoEscape", "internal/bytealg.MakeNoZero"], unfollowed := true, recurses := true, named := ["unicode/utf8.first", "unicode/utf8.acceptRanges", "internal/bytealg.MaxLen"], apart := false, laid := [("unicode/utf8.acceptRanges", laid_unicode_utf8_acceptRanges), ("unicode/utf8.first", laid_unicode_utf8_first)], narrowed := true }
def ErrorboundMostUptoSaid : Prop := errorboundMostUptoRow.holds Tryz.pinned (OpenSpec.upto errorboundMostSpec)

/-- 'viatorlaw32.ErrorboundBounds', WHERE WHAT IT READS IS OF BULK AT MOST 1048576: true; the input reads as it did. -/
def errorboundBoundsUptoRow : OpenClaim := { program := "ytaffcpfhedadhaagreatdoor", sum := "8396fd12dd57c2b702f3a7a06745d9d7976733e6072bb00e900e732aee8b0c05", func := "viator/viatorlaw32.ErrorboundBounds", spec := "errorboundBounds", inPlace := ["internal/bytealg.IndexByteString", "internal/bytealg.IndexString", "math/bits.Add64", "internal/bytealg.abigen_runtime_cmpstring", "internal/abi.NoEscape", "internal/bytealg.MakeNoZero"], unfollowed := true, recurses := true, named := ["unicode/utf8.first", "unicode/utf8.acceptRanges", "internal/bytealg.MaxLen"], apart := false, laid := [("unicode/utf8.acceptRanges", laid_unicode_utf8_acceptRanges), ("unicode/utf8.first", laid_unicode_utf8_first)], narrowed := true }
def ErrorboundBoundsUptoSaid : Prop := errorboundBoundsUptoRow.holds Tryz.pinned (OpenSpec.upto errorboundBoundsSpec)

/-- 'viatorlaw32.ErrorboundJoins', WHERE WHAT IT READS IS OF BULK AT MOST 1048576: true; the input reads as it did. -/
def errorboundJoinsUptoRow : OpenClaim := { program := "ytaffcpfhedadhaagreatdoor", sum := "8396fd12dd57c2b702f3a7a06745d9d7976733e6072bb00e900e732aee8b0c05", func := "viator/viatorlaw32.ErrorboundJoins", spec := "errorboundJoins", inPlace := ["internal/bytealg.IndexByteString", "internal/bytealg.IndexString", "math/bits.Add64", "internal/bytealg.abigen_runtime_cmpstring", "internal/abi.NoEscape", "internal/bytealg.MakeNoZero"], unfollowed := true, recurses := true, named := ["unicode/utf8.first", "unicode/utf8.acceptRanges", "internal/bytealg.MaxLen"], apart := false, laid := [("unicode/utf8.acceptRanges", laid_unicode_utf8_acceptRanges), ("unicode/utf8.first", laid_unicode_utf8_first)], narrowed := true }
def ErrorboundJoinsUptoSaid : Prop := errorboundJoinsUptoRow.holds Tryz.pinned (OpenSpec.upto errorboundJoinsSpec)

end Rows
end Go.Proofs.YtaffcpfhedadhaaGreatDoor
