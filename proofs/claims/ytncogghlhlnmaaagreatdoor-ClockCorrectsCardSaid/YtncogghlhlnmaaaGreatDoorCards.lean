/-
  DERIVED. GIVEN WITH THE SEED: THE CARDS: each row of YtncogghlhlnmaaaGreatDoorRows.lean that lists a variable, with what it lists TIED to the program's text (the seventh form; the later family's looks); each row that meets fmt, with fmt's text TOLD by the authors' own Lean function (tested against real Go, not proved from fmt's source: count such statements apart). THE CARD IS WHAT COUNTS. Prove the row's statement (the work); the ties are given (YtncogghlhlnmaaaGreatDoorTie.lean); close each card by the builder's one call (the guide's Derived/Test/ToyasCard.lean, 'card_holds'). Laid BY PROGRAM, IN A SANDBOX (cutbox-door.mjs). By AI agents, Wed Nov 11 2026. No macro, syntax, notation, axiom, sorry.
-/
import Derived.Test.YtncogghlhlnmaaaGreatDoorRows
import GoSem.ClaimSeven
namespace Go.Proofs.YtncogghlhlnmaaaGreatDoor
namespace Rows

/-- THE TIED CARD OF 'viatorlaw26.ClockOffsets'. -/
def clockOffsetsCard : Claim7 := { stood := { row := clockOffsetsRow, standIns := [], harness := (true, "45dce7e2ae0a8040283445c0619c5419496596470908af28bd6cd61d12c33f9e"), looks := false }, kinds := [], alts := [], laidByText := true, laidKinds := [.data, .pinned], laidTests := true, laidLooks := .later }
def ClockOffsetsCardSaid : Prop := Claim7.holds Tryz.pinned (.plain (OpenSpec.ofChange clockOffsetsSpec)) clockOffsetsCard

/-- THE TIED CARD OF 'viatorlaw26.ClockChains'. -/
def clockChainsCard : Claim7 := { stood := { row := clockChainsRow, standIns := [], harness := (true, "45dce7e2ae0a8040283445c0619c5419496596470908af28bd6cd61d12c33f9e"), looks := false }, kinds := [], alts := [], laidByText := true, laidKinds := [.data, .pinned], laidTests := true, laidLooks := .later }
def ClockChainsCardSaid : Prop := Claim7.holds Tryz.pinned (.plain (OpenSpec.ofChange clockChainsSpec)) clockChainsCard

/-- THE TIED CARD OF 'viatorlaw26.ClockSums'. -/
def clockSumsCard : Claim7 := { stood := { row := clockSumsRow, standIns := [], harness := (true, "45dce7e2ae0a8040283445c0619c5419496596470908af28bd6cd61d12c33f9e"), looks := false }, kinds := [], alts := [], laidByText := true, laidKinds := [.data, .pinned], laidTests := true, laidLooks := .later }
def ClockSumsCardSaid : Prop := Claim7.holds Tryz.pinned (.plain (OpenSpec.ofChange clockSumsSpec)) clockSumsCard

/-- THE TIED CARD OF 'viatorlaw26.ClockCycles'. -/
def clockCyclesCard : Claim7 := { stood := { row := clockCyclesRow, standIns := [], harness := (true, "45dce7e2ae0a8040283445c0619c5419496596470908af28bd6cd61d12c33f9e"), looks := false }, kinds := [], alts := [], laidByText := true, laidKinds := [.data, .pinned], laidTests := true, laidLooks := .later }
def ClockCyclesCardSaid : Prop := Claim7.holds Tryz.pinned (.plain (OpenSpec.ofChange clockCyclesSpec)) clockCyclesCard

/-- THE TIED CARD OF 'viatorlaw26.ClockNarrows'. -/
def clockNarrowsCard : Claim7 := { stood := { row := clockNarrowsRow, standIns := [], harness := (true, "45dce7e2ae0a8040283445c0619c5419496596470908af28bd6cd61d12c33f9e"), looks := false }, kinds := [], alts := [], laidByText := true, laidKinds := [.data, .pinned], laidTests := true, laidLooks := .later }
def ClockNarrowsCardSaid : Prop := Claim7.holds Tryz.pinned (.plain (OpenSpec.ofChange clockNarrowsSpec)) clockNarrowsCard

/-- THE TIED CARD OF 'viatorlaw26.ClockOrders'. -/
def clockOrdersCard : Claim7 := { stood := { row := clockOrdersRow, standIns := [], harness := (true, "45dce7e2ae0a8040283445c0619c5419496596470908af28bd6cd61d12c33f9e"), looks := false }, kinds := [], alts := [], laidByText := true, laidKinds := [.data, .pinned], laidTests := true, laidLooks := .later }
def ClockOrdersCardSaid : Prop := Claim7.holds Tryz.pinned (.plain (OpenSpec.ofChange clockOrdersSpec)) clockOrdersCard

/-- THE TIED CARD OF 'viatorlaw26.ClockCorrects'. -/
def clockCorrectsCard : Claim7 := { stood := { row := clockCorrectsRow, standIns := [], harness := (true, "45dce7e2ae0a8040283445c0619c5419496596470908af28bd6cd61d12c33f9e"), looks := false }, kinds := [], alts := [], laidByText := true, laidKinds := [.data, .pinned], laidTests := true, laidLooks := .later }
def ClockCorrectsCardSaid : Prop := Claim7.holds Tryz.pinned (.plain (OpenSpec.ofChange clockCorrectsSpec)) clockCorrectsCard

/-- THE TIED CARD OF 'viatorlaw26.ClockChecks'. -/
def clockChecksCard : Claim7 := { stood := { row := clockChecksRow, standIns := [], harness := (true, "45dce7e2ae0a8040283445c0619c5419496596470908af28bd6cd61d12c33f9e"), looks := false }, kinds := [], alts := [], laidByText := true, laidKinds := [.data, .pinned], laidTests := true, laidLooks := .later }
def ClockChecksCardSaid : Prop := Claim7.holds Tryz.pinned (.plain (OpenSpec.ofChange clockChecksSpec)) clockChecksCard

/-- THE TIED CARD OF 'viatorlaw26.ClockContains'. -/
def clockContainsCard : Claim7 := { stood := { row := clockContainsRow, standIns := [], harness := (true, "45dce7e2ae0a8040283445c0619c5419496596470908af28bd6cd61d12c33f9e"), looks := false }, kinds := [], alts := [], laidByText := true, laidKinds := [.data, .pinned], laidTests := true, laidLooks := .later }
def ClockContainsCardSaid : Prop := Claim7.holds Tryz.pinned (.plain (OpenSpec.ofChange clockContainsSpec)) clockContainsCard

/-- THE SECOND FORM's CARD OF 'viatorlaw26.ClockOffsets'. -/
def clockOffsetsUptoCard : Claim7 := { stood := { row := clockOffsetsUptoRow, standIns := [], harness := (true, "45dce7e2ae0a8040283445c0619c5419496596470908af28bd6cd61d12c33f9e"), looks := false }, kinds := [], alts := [], laidByText := true, laidKinds := [.data, .pinned], laidTests := true, laidLooks := .later }
def ClockOffsetsUptoCardSaid : Prop := Claim7.holds Tryz.pinned (.plain (OpenSpec.upto clockOffsetsSpec)) clockOffsetsUptoCard

/-- THE SECOND FORM's CARD OF 'viatorlaw26.ClockChains'. -/
def clockChainsUptoCard : Claim7 := { stood := { row := clockChainsUptoRow, standIns := [], harness := (true, "45dce7e2ae0a8040283445c0619c5419496596470908af28bd6cd61d12c33f9e"), looks := false }, kinds := [], alts := [], laidByText := true, laidKinds := [.data, .pinned], laidTests := true, laidLooks := .later }
def ClockChainsUptoCardSaid : Prop := Claim7.holds Tryz.pinned (.plain (OpenSpec.upto clockChainsSpec)) clockChainsUptoCard

/-- THE SECOND FORM's CARD OF 'viatorlaw26.ClockSums'. -/
def clockSumsUptoCard : Claim7 := { stood := { row := clockSumsUptoRow, standIns := [], harness := (true, "45dce7e2ae0a8040283445c0619c5419496596470908af28bd6cd61d12c33f9e"), looks := false }, kinds := [], alts := [], laidByText := true, laidKinds := [.data, .pinned], laidTests := true, laidLooks := .later }
def ClockSumsUptoCardSaid : Prop := Claim7.holds Tryz.pinned (.plain (OpenSpec.upto clockSumsSpec)) clockSumsUptoCard

/-- THE SECOND FORM's CARD OF 'viatorlaw26.ClockCycles'. -/
def clockCyclesUptoCard : Claim7 := { stood := { row := clockCyclesUptoRow, standIns := [], harness := (true, "45dce7e2ae0a8040283445c0619c5419496596470908af28bd6cd61d12c33f9e"), looks := false }, kinds := [], alts := [], laidByText := true, laidKinds := [.data, .pinned], laidTests := true, laidLooks := .later }
def ClockCyclesUptoCardSaid : Prop := Claim7.holds Tryz.pinned (.plain (OpenSpec.upto clockCyclesSpec)) clockCyclesUptoCard

/-- THE SECOND FORM's CARD OF 'viatorlaw26.ClockNarrows'. -/
def clockNarrowsUptoCard : Claim7 := { stood := { row := clockNarrowsUptoRow, standIns := [], harness := (true, "45dce7e2ae0a8040283445c0619c5419496596470908af28bd6cd61d12c33f9e"), looks := false }, kinds := [], alts := [], laidByText := true, laidKinds := [.data, .pinned], laidTests := true, laidLooks := .later }
def ClockNarrowsUptoCardSaid : Prop := Claim7.holds Tryz.pinned (.plain (OpenSpec.upto clockNarrowsSpec)) clockNarrowsUptoCard

/-- THE SECOND FORM's CARD OF 'viatorlaw26.ClockOrders'. -/
def clockOrdersUptoCard : Claim7 := { stood := { row := clockOrdersUptoRow, standIns := [], harness := (true, "45dce7e2ae0a8040283445c0619c5419496596470908af28bd6cd61d12c33f9e"), looks := false }, kinds := [], alts := [], laidByText := true, laidKinds := [.data, .pinned], laidTests := true, laidLooks := .later }
def ClockOrdersUptoCardSaid : Prop := Claim7.holds Tryz.pinned (.plain (OpenSpec.upto clockOrdersSpec)) clockOrdersUptoCard

/-- THE SECOND FORM's CARD OF 'viatorlaw26.ClockCorrects'. -/
def clockCorrectsUptoCard : Claim7 := { stood := { row := clockCorrectsUptoRow, standIns := [], harness := (true, "45dce7e2ae0a8040283445c0619c5419496596470908af28bd6cd61d12c33f9e"), looks := false }, kinds := [], alts := [], laidByText := true, laidKinds := [.data, .pinned], laidTests := true, laidLooks := .later }
def ClockCorrectsUptoCardSaid : Prop := Claim7.holds Tryz.pinned (.plain (OpenSpec.upto clockCorrectsSpec)) clockCorrectsUptoCard

/-- THE SECOND FORM's CARD OF 'viatorlaw26.ClockChecks'. -/
def clockChecksUptoCard : Claim7 := { stood := { row := clockChecksUptoRow, standIns := [], harness := (true, "45dce7e2ae0a8040283445c0619c5419496596470908af28bd6cd61d12c33f9e"), looks := false }, kinds := [], alts := [], laidByText := true, laidKinds := [.data, .pinned], laidTests := true, laidLooks := .later }
def ClockChecksUptoCardSaid : Prop := Claim7.holds Tryz.pinned (.plain (OpenSpec.upto clockChecksSpec)) clockChecksUptoCard

/-- THE SECOND FORM's CARD OF 'viatorlaw26.ClockContains'. -/
def clockContainsUptoCard : Claim7 := { stood := { row := clockContainsUptoRow, standIns := [], harness := (true, "45dce7e2ae0a8040283445c0619c5419496596470908af28bd6cd61d12c33f9e"), looks := false }, kinds := [], alts := [], laidByText := true, laidKinds := [.data, .pinned], laidTests := true, laidLooks := .later }
def ClockContainsUptoCardSaid : Prop := Claim7.holds Tryz.pinned (.plain (OpenSpec.upto clockContainsSpec)) clockContainsUptoCard
end Rows
end Go.Proofs.YtncogghlhlnmaaaGreatDoor
