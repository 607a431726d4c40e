/-
  NARROWER THAN 'FOR EVERY INPUT', by the rows' own cells (each row's printed sentence says how): PlaneVectors: laid · PlaneMeets: laid · PlaneCommon: laid · PlaneNearest: laid · PlaneOrders: laid · PlaneTurns: laid · PlaneDistances: laid · PlaneLeast: laid · PlaneChecks: laid · PlaneBoxes: laid.
  DERIVED. THE GIVEN ROWS OF THIS SEAT. 10 by the template 'for every input the law returns true; each argument reads behind the call as it read before'; 0 by the template 'total and deterministic' (their statements: YthnlafhnpphdhaaGreatDoorTotals.lean).
  GIVEN WITH THE SEED: the statements are not yours to turn. If you find one false, say at which input.
  Laid BY PROGRAM, IN A SANDBOX (cutbox-rows.mjs): the forced cells as the released guide's own fill.sh prints them over the translation 356ff54c0174d42c… (all of the seat's roots in one cut). By AI agents, Wed Nov 11 2026. No macro, syntax, notation, axiom, sorry.
-/
import Derived.Test.YthnlafhnpphdhaaGreatDoorChecked
import GoSem.PinnedTables
import GoSem.Claim
import GoSem.ClaimJoined
import GoSem.ClaimMapViews
import Derived.JoinedTies
import Derived.KernelRfl
namespace Go.Proofs.YthnlafhnpphdhaaGreatDoor
/- THE CELL 'sum', in the pinned program and in every row, IS THE sha256 OF THE DUMP (.gsa) THAT YthnlafhnpphdhaaGreatDoorProg.lean LOADS. Nothing in Lean hashes anything: it is a label: what it is worth is what the hold of that sum in a sandbox is worth. -/
noncomputable def Tryz.pinned : Pinned := { name := "ythnlafhnpphdhaagreatdoor", sum := "356ff54c0174d42c3a36d2eb32d6a52cd6710e700baa1e028cbfa71c4c22bb67", checked := Tryz.checked }
namespace Rows
def none {H : Type} : Left H := { results := [], args := [] }

/- WHAT THE LISTED PACKAGE-LEVEL VARIABLES READ AS WHEN THE CALL BEGINS. Each datum BY PROGRAM (the guide's laid-datum.mjs) off the statement by which the dump's own 'gosem.cut.vars' lays the variable. In a bare row this is a premise. The card (YthnlafhnpphdhaaGreatDoorCards.lean) ties it to the program's text. -/
def laid_unicode_utf8_acceptRanges {H : Type} : DataW H := .agg [.agg [.lit (.int .u8 128), .lit (.int .u8 191)], .agg [.lit (.int .u8 160), .lit (.int .u8 191)], .agg [.lit (.int .u8 128), .lit (.int .u8 159)], .agg [.lit (.int .u8 144), .lit (.int .u8 191)], .agg [.lit (.int .u8 128), .lit (.int .u8 143)], .agg [.lit (.int .u8 0), .lit (.int .u8 0)], .agg [.lit (.int .u8 0), .lit (.int .u8 0)], .agg [.lit (.int .u8 0), .lit (.int .u8 0)], .agg [.lit (.int .u8 0), .lit (.int .u8 0)], .agg [.lit (.int .u8 0), .lit (.int .u8 0)], .agg [.lit (.int .u8 0), .lit (.int .u8 0)], .agg [.lit (.int .u8 0), .lit (.int .u8 0)], .agg [.lit (.int .u8 0), .lit (.int .u8 0)], .agg [.lit (.int .u8 0), .lit (.int .u8 0)], .agg [.lit (.int .u8 0), .lit (.int .u8 0)], .agg [.lit (.int .u8 0), .lit (.int .u8 0)]]
/-- One of Go's own tables, pinned by name: the form's constant. -/
def laid_unicode_utf8_first : DataW Unit := Go.Pinned.utf8First

/-- 'viatorlaw07.PlaneVectors': WHATEVER THE INPUT: true; the input reads as it did. -/
def planeVectorsSpec : ChangeSpec := { name := "planeVectors", fn := fun _ => fun
  | [d1, d2, d3] => { results := [.lit (.bool true)], args := [d1, d2, d3] }
  | _ => none }
def planeVectorsRow : OpenClaim := { program := "ythnlafhnpphdhaagreatdoor", sum := "356ff54c0174d42c3a36d2eb32d6a52cd6710e700baa1e028cbfa71c4c22bb67", func := "viator/viatorlaw07.PlaneVectors", spec := "planeVectors", inPlace := ["internal/bytealg.IndexByteString", "internal/bytealg.IndexString", "math/bits.Add64", "internal/bytealg.abigen_runtime_cmpstring"], unfollowed := true, recurses := true, named := ["unicode/utf8.first", "unicode/utf8.acceptRanges", "internal/bytealg.MaxLen"], apart := false, laid := [("unicode/utf8.acceptRanges", laid_unicode_utf8_acceptRanges), ("unicode/utf8.first", laid_unicode_utf8_first)] }
def PlaneVectorsSaid : Prop := planeVectorsRow.holds Tryz.pinned (OpenSpec.ofChange planeVectorsSpec)

/-- ITS FALSE NEIGHBOUR: 'it returns false'. Refute it at one input. -/
def planeVectorsWrong : ChangeSpec := { name := "planeVectors", fn := fun _ => fun
  | [d1, d2, d3] => { results := [.lit (.bool false)], args := [d1, d2, d3] }
  | _ => none }
def PlaneVectorsWrongFalsely : Prop := planeVectorsRow.holds Tryz.pinned (OpenSpec.ofChange planeVectorsWrong)

/-- 'viatorlaw07.PlaneMeets': WHATEVER THE INPUT: true; the input reads as it did. -/
def planeMeetsSpec : ChangeSpec := { name := "planeMeets", fn := fun _ => fun
  | [d1, d2] => { results := [.lit (.bool true)], args := [d1, d2] }
  | _ => none }
def planeMeetsRow : OpenClaim := { program := "ythnlafhnpphdhaagreatdoor", sum := "356ff54c0174d42c3a36d2eb32d6a52cd6710e700baa1e028cbfa71c4c22bb67", func := "viator/viatorlaw07.PlaneMeets", spec := "planeMeets", inPlace := ["internal/bytealg.IndexByteString", "internal/bytealg.IndexString", "math/bits.Add64", "internal/bytealg.abigen_runtime_cmpstring"], unfollowed := true, recurses := true, named := ["unicode/utf8.first", "unicode/utf8.acceptRanges", "internal/bytealg.MaxLen"], apart := false, laid := [("unicode/utf8.acceptRanges", laid_unicode_utf8_acceptRanges), ("unicode/utf8.first", laid_unicode_utf8_first)] }
def PlaneMeetsSaid : Prop := planeMeetsRow.holds Tryz.pinned (OpenSpec.ofChange planeMeetsSpec)

/-- ITS FALSE NEIGHBOUR: 'it returns false'. Refute it at one input. -/
def planeMeetsWrong : ChangeSpec := { name := "planeMeets", fn := fun _ => fun
  | [d1, d2] => { results := [.lit (.bool false)], args := [d1, d2] }
  | _ => none }
def PlaneMeetsWrongFalsely : Prop := planeMeetsRow.holds Tryz.pinned (OpenSpec.ofChange planeMeetsWrong)

/-- 'viatorlaw07.PlaneCommon': WHATEVER THE INPUT: true; the input reads as it did. -/
def planeCommonSpec : ChangeSpec := { name := "planeCommon", fn := fun _ => fun
  | [d1, d2] => { results := [.lit (.bool true)], args := [d1, d2] }
  | _ => none }
def planeCommonRow : OpenClaim := { program := "ythnlafhnpphdhaagreatdoor", sum := "356ff54c0174d42c3a36d2eb32d6a52cd6710e700baa1e028cbfa71c4c22bb67", func := "viator/viatorlaw07.PlaneCommon", spec := "planeCommon", inPlace := ["internal/bytealg.IndexByteString", "internal/bytealg.IndexString", "math/bits.Add64", "internal/bytealg.abigen_runtime_cmpstring"], unfollowed := true, recurses := true, named := ["unicode/utf8.first", "unicode/utf8.acceptRanges", "internal/bytealg.MaxLen"], apart := false, laid := [("unicode/utf8.acceptRanges", laid_unicode_utf8_acceptRanges), ("unicode/utf8.first", laid_unicode_utf8_first)] }
def PlaneCommonSaid : Prop := planeCommonRow.holds Tryz.pinned (OpenSpec.ofChange planeCommonSpec)

/-- ITS FALSE NEIGHBOUR: 'it returns false'. Refute it at one input. -/
def planeCommonWrong : ChangeSpec := { name := "planeCommon", fn := fun _ => fun
  | [d1, d2] => { results := [.lit (.bool false)], args := [d1, d2] }
  | _ => none }
def PlaneCommonWrongFalsely : Prop := planeCommonRow.holds Tryz.pinned (OpenSpec.ofChange planeCommonWrong)

/-- 'viatorlaw07.PlaneNearest': WHATEVER THE INPUT: true; the input reads as it did. -/
def planeNearestSpec : ChangeSpec := { name := "planeNearest", fn := fun _ => fun
  | [d1, d2, d3] => { results := [.lit (.bool true)], args := [d1, d2, d3] }
  | _ => none }
def planeNearestRow : OpenClaim := { program := "ythnlafhnpphdhaagreatdoor", sum := "356ff54c0174d42c3a36d2eb32d6a52cd6710e700baa1e028cbfa71c4c22bb67", func := "viator/viatorlaw07.PlaneNearest", spec := "planeNearest", inPlace := ["internal/bytealg.IndexByteString", "internal/bytealg.IndexString", "math/bits.Add64", "internal/bytealg.abigen_runtime_cmpstring"], unfollowed := true, recurses := true, named := ["unicode/utf8.first", "unicode/utf8.acceptRanges", "internal/bytealg.MaxLen"], apart := false, laid := [("unicode/utf8.acceptRanges", laid_unicode_utf8_acceptRanges), ("unicode/utf8.first", laid_unicode_utf8_first)] }
def PlaneNearestSaid : Prop := planeNearestRow.holds Tryz.pinned (OpenSpec.ofChange planeNearestSpec)

/-- ITS FALSE NEIGHBOUR: 'it returns false'. Refute it at one input. -/
def planeNearestWrong : ChangeSpec := { name := "planeNearest", fn := fun _ => fun
  | [d1, d2, d3] => { results := [.lit (.bool false)], args := [d1, d2, d3] }
  | _ => none }
def PlaneNearestWrongFalsely : Prop := planeNearestRow.holds Tryz.pinned (OpenSpec.ofChange planeNearestWrong)

/-- 'viatorlaw07.PlaneOrders': WHATEVER THE INPUT: true; the input reads as it did. -/
def planeOrdersSpec : ChangeSpec := { name := "planeOrders", fn := fun _ => fun
  | [d1, d2, d3] => { results := [.lit (.bool true)], args := [d1, d2, d3] }
  | _ => none }
def planeOrdersRow : OpenClaim := { program := "ythnlafhnpphdhaagreatdoor", sum := "356ff54c0174d42c3a36d2eb32d6a52cd6710e700baa1e028cbfa71c4c22bb67", func := "viator/viatorlaw07.PlaneOrders", spec := "planeOrders", inPlace := ["internal/bytealg.IndexByteString", "internal/bytealg.IndexString", "math/bits.Add64", "internal/bytealg.abigen_runtime_cmpstring"], unfollowed := true, recurses := true, named := ["unicode/utf8.first", "unicode/utf8.acceptRanges", "internal/bytealg.MaxLen"], apart := false, laid := [("unicode/utf8.acceptRanges", laid_unicode_utf8_acceptRanges), ("unicode/utf8.first", laid_unicode_utf8_first)] }
def PlaneOrdersSaid : Prop := planeOrdersRow.holds Tryz.pinned (OpenSpec.ofChange planeOrdersSpec)

/-- ITS FALSE NEIGHBOUR: 'it returns false'. Refute it at one input. -/
def planeOrdersWrong : ChangeSpec := { name := "planeOrders", fn := fun _ => fun
  | [d1, d2, d3] => { results := [.lit (.bool false)], args := [d1, d2, d3] }
  | _ => none }
def PlaneOrdersWrongFalsely : Prop := planeOrdersRow.holds Tryz.pinned (OpenSpec.ofChange planeOrdersWrong)

/-- 'viatorlaw07.PlaneTurns': WHATEVER THE INPUT: true; the input reads as it did. -/
def planeTurnsSpec : ChangeSpec := { name := "planeTurns", fn := fun _ => fun
  | [d1, d2, d3] => { results := [.lit (.bool true)], args := [d1, d2, d3] }
  | _ => none }
def planeTurnsRow : OpenClaim := { program := "ythnlafhnpphdhaagreatdoor", sum := "356ff54c0174d42c3a36d2eb32d6a52cd6710e700baa1e028cbfa71c4c22bb67", func := "viator/viatorlaw07.PlaneTurns", spec := "planeTurns", inPlace := ["internal/bytealg.IndexByteString", "internal/bytealg.IndexString", "math/bits.Add64", "internal/bytealg.abigen_runtime_cmpstring"], unfollowed := true, recurses := true, named := ["unicode/utf8.first", "unicode/utf8.acceptRanges", "internal/bytealg.MaxLen"], apart := false, laid := [("unicode/utf8.acceptRanges", laid_unicode_utf8_acceptRanges), ("unicode/utf8.first", laid_unicode_utf8_first)] }
def PlaneTurnsSaid : Prop := planeTurnsRow.holds Tryz.pinned (OpenSpec.ofChange planeTurnsSpec)

/-- ITS FALSE NEIGHBOUR: 'it returns false'. Refute it at one input. -/
def planeTurnsWrong : ChangeSpec := { name := "planeTurns", fn := fun _ => fun
  | [d1, d2, d3] => { results := [.lit (.bool false)], args := [d1, d2, d3] }
  | _ => none }
def PlaneTurnsWrongFalsely : Prop := planeTurnsRow.holds Tryz.pinned (OpenSpec.ofChange planeTurnsWrong)

/-- 'viatorlaw07.PlaneDistances': WHATEVER THE INPUT: true; the input reads as it did. -/
def planeDistancesSpec : ChangeSpec := { name := "planeDistances", fn := fun _ => fun
  | [d1, d2] => { results := [.lit (.bool true)], args := [d1, d2] }
  | _ => none }
def planeDistancesRow : OpenClaim := { program := "ythnlafhnpphdhaagreatdoor", sum := "356ff54c0174d42c3a36d2eb32d6a52cd6710e700baa1e028cbfa71c4c22bb67", func := "viator/viatorlaw07.PlaneDistances", spec := "planeDistances", inPlace := ["internal/bytealg.IndexByteString", "internal/bytealg.IndexString", "math/bits.Add64", "internal/bytealg.abigen_runtime_cmpstring"], unfollowed := true, recurses := true, named := ["unicode/utf8.first", "unicode/utf8.acceptRanges", "internal/bytealg.MaxLen"], apart := false, laid := [("unicode/utf8.acceptRanges", laid_unicode_utf8_acceptRanges), ("unicode/utf8.first", laid_unicode_utf8_first)] }
def PlaneDistancesSaid : Prop := planeDistancesRow.holds Tryz.pinned (OpenSpec.ofChange planeDistancesSpec)

/-- ITS FALSE NEIGHBOUR: 'it returns false'. Refute it at one input. -/
def planeDistancesWrong : ChangeSpec := { name := "planeDistances", fn := fun _ => fun
  | [d1, d2] => { results := [.lit (.bool false)], args := [d1, d2] }
  | _ => none }
def PlaneDistancesWrongFalsely : Prop := planeDistancesRow.holds Tryz.pinned (OpenSpec.ofChange planeDistancesWrong)

/-- 'viatorlaw07.PlaneLeast': WHATEVER THE INPUT: true; the input reads as it did. -/
def planeLeastSpec : ChangeSpec := { name := "planeLeast", fn := fun _ => fun
  | [d1, d2] => { results := [.lit (.bool true)], args := [d1, d2] }
  | _ => none }
def planeLeastRow : OpenClaim := { program := "ythnlafhnpphdhaagreatdoor", sum := "356ff54c0174d42c3a36d2eb32d6a52cd6710e700baa1e028cbfa71c4c22bb67", func := "viator/viatorlaw07.PlaneLeast", spec := "planeLeast", inPlace := ["internal/bytealg.IndexByteString", "internal/bytealg.IndexString", "math/bits.Add64", "internal/bytealg.abigen_runtime_cmpstring"], unfollowed := true, recurses := true, named := ["unicode/utf8.first", "unicode/utf8.acceptRanges", "internal/bytealg.MaxLen"], apart := false, laid := [("unicode/utf8.acceptRanges", laid_unicode_utf8_acceptRanges), ("unicode/utf8.first", laid_unicode_utf8_first)] }
def PlaneLeastSaid : Prop := planeLeastRow.holds Tryz.pinned (OpenSpec.ofChange planeLeastSpec)

/-- ITS FALSE NEIGHBOUR: 'it returns false'. Refute it at one input. -/
def planeLeastWrong : ChangeSpec := { name := "planeLeast", fn := fun _ => fun
  | [d1, d2] => { results := [.lit (.bool false)], args := [d1, d2] }
  | _ => none }
def PlaneLeastWrongFalsely : Prop := planeLeastRow.holds Tryz.pinned (OpenSpec.ofChange planeLeastWrong)

/-- 'viatorlaw07.PlaneChecks': WHATEVER THE INPUT: true; the input reads as it did. -/
def planeChecksSpec : ChangeSpec := { name := "planeChecks", fn := fun _ => fun
  | [d1, d2, d3] => { results := [.lit (.bool true)], args := [d1, d2, d3] }
  | _ => none }
def planeChecksRow : OpenClaim := { program := "ythnlafhnpphdhaagreatdoor", sum := "356ff54c0174d42c3a36d2eb32d6a52cd6710e700baa1e028cbfa71c4c22bb67", func := "viator/viatorlaw07.PlaneChecks", spec := "planeChecks", inPlace := ["internal/bytealg.IndexByteString", "internal/bytealg.IndexString", "math/bits.Add64", "internal/bytealg.abigen_runtime_cmpstring"], unfollowed := true, recurses := true, named := ["unicode/utf8.first", "unicode/utf8.acceptRanges", "internal/bytealg.MaxLen"], apart := false, laid := [("unicode/utf8.acceptRanges", laid_unicode_utf8_acceptRanges), ("unicode/utf8.first", laid_unicode_utf8_first)] }
def PlaneChecksSaid : Prop := planeChecksRow.holds Tryz.pinned (OpenSpec.ofChange planeChecksSpec)

/-- ITS FALSE NEIGHBOUR: 'it returns false'. Refute it at one input. -/
def planeChecksWrong : ChangeSpec := { name := "planeChecks", fn := fun _ => fun
  | [d1, d2, d3] => { results := [.lit (.bool false)], args := [d1, d2, d3] }
  | _ => none }
def PlaneChecksWrongFalsely : Prop := planeChecksRow.holds Tryz.pinned (OpenSpec.ofChange planeChecksWrong)

/-- 'viatorlaw07.PlaneBoxes': WHATEVER THE INPUT: true; the input reads as it did. -/
def planeBoxesSpec : ChangeSpec := { name := "planeBoxes", fn := fun _ => fun
  | [d] => { results := [.lit (.bool true)], args := [d] }
  | _ => none }
def planeBoxesRow : OpenClaim := { program := "ythnlafhnpphdhaagreatdoor", sum := "356ff54c0174d42c3a36d2eb32d6a52cd6710e700baa1e028cbfa71c4c22bb67", func := "viator/viatorlaw07.PlaneBoxes", spec := "planeBoxes", inPlace := ["internal/bytealg.IndexByteString", "internal/bytealg.IndexString", "math/bits.Add64", "internal/bytealg.abigen_runtime_cmpstring"], unfollowed := true, recurses := true, named := ["unicode/utf8.first", "unicode/utf8.acceptRanges", "internal/bytealg.MaxLen"], apart := false, laid := [("unicode/utf8.acceptRanges", laid_unicode_utf8_acceptRanges), ("unicode/utf8.first", laid_unicode_utf8_first)] }
def PlaneBoxesSaid : Prop := planeBoxesRow.holds Tryz.pinned (OpenSpec.ofChange planeBoxesSpec)

/-- ITS FALSE NEIGHBOUR: 'it returns false'. Refute it at one input. -/
def planeBoxesWrong : ChangeSpec := { name := "planeBoxes", fn := fun _ => fun
  | [d] => { results := [.lit (.bool false)], args := [d] }
  | _ => none }
def PlaneBoxesWrongFalsely : Prop := planeBoxesRow.holds Tryz.pinned (OpenSpec.ofChange planeBoxesWrong)

/- THE SECOND FORM. 'bulk': how many values and letters a reading holds, each counted each time it is reached (what is shared counts as often as it is met; a slice's spare places count too). A statement '..UptoSaid' is the law's where the arguments, and the package variables that the reading takes, are together of bulk at most 1048576: NARROWER than '..Said'. Prove '..Said' where nothing that the law and all that it calls make is longer than what came in: it says more and counts as full. Else prove '..UptoSaid'. A law counts once. -/
mutual
def uptoBulk {H : Type} : DataW H → Nat
  | .lit (.string bytes) => bytes.length + 1
  | .lit _ => 1
  | .nil => 1
  | .ptr d => uptoBulk d + 1
  | .slice elems spare => uptoBulkAll elems + uptoBulkAll spare + 1
  | .agg parts => uptoBulkAll parts + 1
  | .iface _ d => uptoBulk d + 1
  | .map entries => uptoBulkEntries entries + 1
  | .held _ => 1
def uptoBulkAll {H : Type} : List (DataW H) → Nat
  | [] => 0
  | d :: r => uptoBulk d + uptoBulkAll r
def uptoBulkEntries {H : Type} : List (Lit × DataW H) → Nat
  | [] => 0
  | x :: r => uptoBulkEntry x + uptoBulkEntries r
def uptoBulkEntry {H : Type} : Lit × DataW H → Nat
  | (.string bytes, d) => bytes.length + uptoBulk d + 1
  | (_, d) => uptoBulk d + 1
 end
def uptoSmall : (H : Type) → List (DataW H) → Bool := fun _ ds => decide (uptoBulkAll ds ≤ 1048576)
def OpenSpec.upto (s : _root_.Go.ChangeSpec) : _root_.Go.OpenSpec := { _root_.Go.OpenSpec.ofChange s with cond := some uptoSmall }

/-- 'viatorlaw07.PlaneVectors', WHERE WHAT IT READS IS OF BULK AT MOST 1048576: true; the input reads as it did. -/
def planeVectorsUptoRow : OpenClaim := { program := "ythnlafhnpphdhaagreatdoor", sum := "356ff54c0174d42c3a36d2eb32d6a52cd6710e700baa1e028cbfa71c4c22bb67", func := "viator/viatorlaw07.PlaneVectors", spec := "planeVectors", inPlace := ["internal/bytealg.IndexByteString", "internal/bytealg.IndexString", "math/bits.Add64", "internal/bytealg.abigen_runtime_cmpstring"], unfollowed := true, recurses := true, named := ["unicode/utf8.first", "unicode/utf8.acceptRanges", "internal/bytealg.MaxLen"], apart := false, laid := [("unicode/utf8.acceptRanges", laid_unicode_utf8_acceptRanges), ("unicode/utf8.first", laid_unicode_utf8_first)], narrowed := true }
def PlaneVectorsUptoSaid : Prop := planeVectorsUptoRow.holds Tryz.pinned (OpenSpec.upto planeVectorsSpec)

/-- 'viatorlaw07.PlaneMeets', WHERE WHAT IT READS IS OF BULK AT MOST 1048576: true; the input reads as it did. -/
def planeMeetsUptoRow : OpenClaim := { program := "ythnlafhnpphdhaagreatdoor", sum := "356ff54c0174d42c3a36d2eb32d6a52cd6710e700baa1e028cbfa71c4c22bb67", func := "viator/viatorlaw07.PlaneMeets", spec := "planeMeets", inPlace := ["internal/bytealg.IndexByteString", "internal/bytealg.IndexString", "math/bits.Add64", "internal/bytealg.abigen_runtime_cmpstring"], unfollowed := true, recurses := true, named := ["unicode/utf8.first", "unicode/utf8.acceptRanges", "internal/bytealg.MaxLen"], apart := false, laid := [("unicode/utf8.acceptRanges", laid_unicode_utf8_acceptRanges), ("unicode/utf8.first", laid_unicode_utf8_first)], narrowed := true }
def PlaneMeetsUptoSaid : Prop := planeMeetsUptoRow.holds Tryz.pinned (OpenSpec.upto planeMeetsSpec)

/-- 'viatorlaw07.PlaneCommon', WHERE WHAT IT READS IS OF BULK AT MOST 1048576: true; the input reads as it did. -/
def planeCommonUptoRow : OpenClaim := { program := "ythnlafhnpphdhaagreatdoor", sum := "356ff54c0174d42c3a36d2eb32d6a52cd6710e700baa1e028cbfa71c4c22bb67", func := "viator/viatorlaw07.PlaneCommon", spec := "planeCommon", inPlace := ["internal/bytealg.IndexByteString", "internal/bytealg.IndexString", "math/bits.Add64", "internal/bytealg.abigen_runtime_cmpstring"], unfollowed := true, recurses := true, named := ["unicode/utf8.first", "unicode/utf8.acceptRanges", "internal/bytealg.MaxLen"], apart := false, laid := [("unicode/utf8.acceptRanges", laid_unicode_utf8_acceptRanges), ("unicode/utf8.first", laid_unicode_utf8_first)], narrowed := true }
def PlaneCommonUptoSaid : Prop := planeCommonUptoRow.holds Tryz.pinned (OpenSpec.upto planeCommonSpec)

/-- 'viatorlaw07.PlaneNearest', WHERE WHAT IT READS IS OF BULK AT MOST 1048576: true; the input reads as it did. -/
def planeNearestUptoRow : OpenClaim := { program := "ythnlafhnpphdhaagreatdoor", sum := "356ff54c0174d42c3a36d2eb32d6a52cd6710e700baa1e028cbfa71c4c22bb67", func := "viator/viatorlaw07.PlaneNearest", spec := "planeNearest", inPlace := ["internal/bytealg.IndexByteString", "internal/bytealg.IndexString", "math/bits.Add64", "internal/bytealg.abigen_runtime_cmpstring"], unfollowed := true, recurses := true, named := ["unicode/utf8.first", "unicode/utf8.acceptRanges", "internal/bytealg.MaxLen"], apart := false, laid := [("unicode/utf8.acceptRanges", laid_unicode_utf8_acceptRanges), ("unicode/utf8.first", laid_unicode_utf8_first)], narrowed := true }
def PlaneNearestUptoSaid : Prop := planeNearestUptoRow.holds Tryz.pinned (OpenSpec.upto planeNearestSpec)

/-- 'viatorlaw07.PlaneOrders', WHERE WHAT IT READS IS OF BULK AT MOST 1048576: true; the input reads as it did. -/
def planeOrdersUptoRow : OpenClaim := { program := "ythnlafhnpphdhaagreatdoor", sum := "356ff54c0174d42c3a36d2eb32d6a52cd6710e700baa1e028cbfa71c4c22bb67", func := "viator/viatorlaw07.PlaneOrders", spec := "planeOrders", inPlace := ["internal/bytealg.IndexByteString", "internal/bytealg.IndexString", "math/bits.Add64", "internal/bytealg.abigen_runtime_cmpstring"], unfollowed := true, recurses := true, named := ["unicode/utf8.first", "unicode/utf8.acceptRanges", "internal/bytealg.MaxLen"], apart := false, laid := [("unicode/utf8.acceptRanges", laid_unicode_utf8_acceptRanges), ("unicode/utf8.first", laid_unicode_utf8_first)], narrowed := true }
def PlaneOrdersUptoSaid : Prop := planeOrdersUptoRow.holds Tryz.pinned (OpenSpec.upto planeOrdersSpec)

/-- 'viatorlaw07.PlaneTurns', WHERE WHAT IT READS IS OF BULK AT MOST 1048576: true; the input reads as it did. -/
def planeTurnsUptoRow : OpenClaim := { program := "ythnlafhnpphdhaagreatdoor", sum := "356ff54c0174d42c3a36d2eb32d6a52cd6710e700baa1e028cbfa71c4c22bb67", func := "viator/viatorlaw07.PlaneTurns", spec := "planeTurns", inPlace := ["internal/bytealg.IndexByteString", "internal/bytealg.IndexString", "math/bits.Add64", "internal/bytealg.abigen_runtime_cmpstring"], unfollowed := true, recurses := true, named := ["unicode/utf8.first", "unicode/utf8.acceptRanges", "internal/bytealg.MaxLen"], apart := false, laid := [("unicode/utf8.acceptRanges", laid_unicode_utf8_acceptRanges), ("unicode/utf8.first", laid_unicode_utf8_first)], narrowed := true }
def PlaneTurnsUptoSaid : Prop := planeTurnsUptoRow.holds Tryz.pinned (OpenSpec.upto planeTurnsSpec)

/-- 'viatorlaw07.PlaneDistances', WHERE WHAT IT READS IS OF BULK AT MOST 1048576: true; the input reads as it did. -/
def planeDistancesUptoRow : OpenClaim := { program := "ythnlafhnpphdhaagreatdoor", sum := "356ff54c0174d42c3a36d2eb32d6a52cd6710e700baa1e028cbfa71c4c22bb67", func := "viator/viatorlaw07.PlaneDistances", spec := "planeDistances", inPlace := ["internal/bytealg.IndexByteString", "internal/bytealg.IndexString", "math/bits.Add64", "internal/bytealg.abigen_runtime_cmpstring"], unfollowed := true, recurses := true, named := ["unicode/utf8.first", "unicode/utf8.acceptRanges", "internal/bytealg.MaxLen"], apart := false, laid := [("unicode/utf8.acceptRanges", laid_unicode_utf8_acceptRanges), ("unicode/utf8.first", laid_unicode_utf8_first)], narrowed := true }
def PlaneDistancesUptoSaid : Prop := planeDistancesUptoRow.holds Tryz.pinned (OpenSpec.upto planeDistancesSpec)

/-- 'viatorlaw07.PlaneLeast', WHERE WHAT IT READS IS OF BULK AT MOST 1048576: true; the input reads as it did. -/
def planeLeastUptoRow : OpenClaim := { program := "ythnlafhnpphdhaagreatdoor", sum := "356ff54c0174d42c3a36d2eb32d6a52cd6710e700baa1e028cbfa71c4c22bb67", func := "viator/viatorlaw07.PlaneLeast", spec := "planeLeast", inPlace := ["internal/bytealg.IndexByteString", "internal/bytealg.IndexString", "math/bits.Add64", "internal/bytealg.abigen_runtime_cmpstring"], unfollowed := true, recurses := true, named := ["unicode/utf8.first", "unicode/utf8.acceptRanges", "internal/bytealg.MaxLen"], apart := false, laid := [("unicode/utf8.acceptRanges", laid_unicode_utf8_acceptRanges), ("unicode/utf8.first", laid_unicode_utf8_first)], narrowed := true }
def PlaneLeastUptoSaid : Prop := planeLeastUptoRow.holds Tryz.pinned (OpenSpec.upto planeLeastSpec)

/-- 'viatorlaw07.PlaneChecks', WHERE WHAT IT READS IS OF BULK AT MOST 1048576: true; the input reads as it did. -/
def planeChecksUptoRow : OpenClaim := { program := "ythnlafhnpphdhaagreatdoor", sum := "356ff54c0174d42c3a36d2eb32d6a52cd6710e700baa1e028cbfa71c4c22bb67", func := "viator/viatorlaw07.PlaneChecks", spec := "planeChecks", inPlace := ["internal/bytealg.IndexByteString", "internal/bytealg.IndexString", "math/bits.Add64", "internal/bytealg.abigen_runtime_cmpstring"], unfollowed := true, recurses := true, named := ["unicode/utf8.first", "unicode/utf8.acceptRanges", "internal/bytealg.MaxLen"], apart := false, laid := [("unicode/utf8.acceptRanges", laid_unicode_utf8_acceptRanges), ("unicode/utf8.first", laid_unicode_utf8_first)], narrowed := true }
def PlaneChecksUptoSaid : Prop := planeChecksUptoRow.holds Tryz.pinned (OpenSpec.upto planeChecksSpec)

/-- 'viatorlaw07.PlaneBoxes', WHERE WHAT IT READS IS OF BULK AT MOST 1048576: true; the input reads as it did. -/
def planeBoxesUptoRow : OpenClaim := { program := "ythnlafhnpphdhaagreatdoor", sum := "356ff54c0174d42c3a36d2eb32d6a52cd6710e700baa1e028cbfa71c4c22bb67", func := "viator/viatorlaw07.PlaneBoxes", spec := "planeBoxes", inPlace := ["internal/bytealg.IndexByteString", "internal/bytealg.IndexString", "math/bits.Add64", "internal/bytealg.abigen_runtime_cmpstring"], unfollowed := true, recurses := true, named := ["unicode/utf8.first", "unicode/utf8.acceptRanges", "internal/bytealg.MaxLen"], apart := false, laid := [("unicode/utf8.acceptRanges", laid_unicode_utf8_acceptRanges), ("unicode/utf8.first", laid_unicode_utf8_first)], narrowed := true }
def PlaneBoxesUptoSaid : Prop := planeBoxesUptoRow.holds Tryz.pinned (OpenSpec.upto planeBoxesSpec)

end Rows
end Go.Proofs.YthnlafhnpphdhaaGreatDoor
