/-
  DERIVED. GIVEN WITH THE SEED: THE CARDS: each row of YtfijbadahkmhbaaGreatDoorRows.lean that lists a variable, with what it lists TIED to the program's text (the seventh form; the later family's looks); each row that meets fmt, with fmt's text TOLD by the authors' own Lean function (tested against real Go, not proved from fmt's source: count such statements apart). THE CARD IS WHAT COUNTS. Prove the row's statement (the work); the ties are given (YtfijbadahkmhbaaGreatDoorTie.lean); close each card by the builder's one call (the guide's Derived/Test/ToyasCard.lean, 'card_holds'). Laid BY PROGRAM, IN A SANDBOX (cutbox-door.mjs). By AI agents, Wed Nov 11 2026. No macro, syntax, notation, axiom, sorry.
-/
import Derived.Test.YtfijbadahkmhbaaGreatDoorRows
import GoSem.ClaimSeven
namespace Go.Proofs.YtfijbadahkmhbaaGreatDoor
namespace Rows

/-- THE TIED CARD OF 'viatorlaw43.SyntaxNames'. -/
def syntaxNamesCard : Claim7 := { stood := { row := syntaxNamesRow, standIns := [], harness := (true, "a2968d4e842be01dcf7a2639991ea45fb0edf82b218a085fa059066063450bb1"), looks := false }, kinds := [], alts := [], laidByText := true, laidKinds := [.data, .pinned], laidTests := true, laidLooks := .later }
def SyntaxNamesCardSaid : Prop := Claim7.holds Tryz.pinned (.plain (OpenSpec.ofChange syntaxNamesSpec)) syntaxNamesCard

/-- THE TIED CARD OF 'viatorlaw43.SyntaxChecks'. -/
def syntaxChecksCard : Claim7 := { stood := { row := syntaxChecksRow, standIns := [], harness := (true, "a2968d4e842be01dcf7a2639991ea45fb0edf82b218a085fa059066063450bb1"), looks := false }, kinds := [], alts := [], laidByText := true, laidKinds := [.data, .pinned], laidTests := true, laidLooks := .later }
def SyntaxChecksCardSaid : Prop := Claim7.holds Tryz.pinned (.plain (OpenSpec.ofChange syntaxChecksSpec)) syntaxChecksCard

/-- THE TIED CARD OF 'viatorlaw43.SyntaxQueries'. -/
def syntaxQueriesCard : Claim7 := { stood := { row := syntaxQueriesRow, standIns := [], harness := (true, "a2968d4e842be01dcf7a2639991ea45fb0edf82b218a085fa059066063450bb1"), looks := false }, kinds := [], alts := [], laidByText := true, laidKinds := [.data, .pinned], laidTests := true, laidLooks := .later }
def SyntaxQueriesCardSaid : Prop := Claim7.holds Tryz.pinned (.plain (OpenSpec.ofChange syntaxQueriesSpec)) syntaxQueriesCard

/-- THE TIED CARD OF 'viatorlaw43.SyntaxDeep'. -/
def syntaxDeepCard : Claim7 := { stood := { row := syntaxDeepRow, standIns := [], harness := (true, "a2968d4e842be01dcf7a2639991ea45fb0edf82b218a085fa059066063450bb1"), looks := false }, kinds := [], alts := [], laidByText := true, laidKinds := [.data, .pinned], laidTests := true, laidLooks := .later }
def SyntaxDeepCardSaid : Prop := Claim7.holds Tryz.pinned (.plain (OpenSpec.ofChange syntaxDeepSpec)) syntaxDeepCard

/-- THE TIED CARD OF 'viatorlaw43.SyntaxSpaces'. -/
def syntaxSpacesCard : Claim7 := { stood := { row := syntaxSpacesRow, standIns := [], harness := (true, "a2968d4e842be01dcf7a2639991ea45fb0edf82b218a085fa059066063450bb1"), looks := false }, kinds := [], alts := [], laidByText := true, laidKinds := [.data, .pinned], laidTests := true, laidLooks := .later }
def SyntaxSpacesCardSaid : Prop := Claim7.holds Tryz.pinned (.plain (OpenSpec.ofChange syntaxSpacesSpec)) syntaxSpacesCard

/-- THE TIED CARD OF 'viatorlaw43.SyntaxPrints'. -/
def syntaxPrintsCard : Claim7 := { stood := { row := syntaxPrintsRow, standIns := [], harness := (true, "a2968d4e842be01dcf7a2639991ea45fb0edf82b218a085fa059066063450bb1"), looks := false }, kinds := [], alts := [], laidByText := true, laidKinds := [.data, .pinned], laidTests := true, laidLooks := .later }
def SyntaxPrintsCardSaid : Prop := Claim7.holds Tryz.pinned (.plain (OpenSpec.ofChange syntaxPrintsSpec)) syntaxPrintsCard

/-- THE TIED CARD OF 'viatorlaw43.SyntaxBinds'. -/
def syntaxBindsCard : Claim7 := { stood := { row := syntaxBindsRow, standIns := [], harness := (true, "a2968d4e842be01dcf7a2639991ea45fb0edf82b218a085fa059066063450bb1"), looks := false }, kinds := [], alts := [], laidByText := true, laidKinds := [.data, .pinned], laidTests := true, laidLooks := .later }
def SyntaxBindsCardSaid : Prop := Claim7.holds Tryz.pinned (.plain (OpenSpec.ofChange syntaxBindsSpec)) syntaxBindsCard

/-- THE TIED CARD OF 'viatorlaw43.SyntaxEquals'. -/
def syntaxEqualsCard : Claim7 := { stood := { row := syntaxEqualsRow, standIns := [], harness := (true, "a2968d4e842be01dcf7a2639991ea45fb0edf82b218a085fa059066063450bb1"), looks := false }, kinds := [], alts := [], laidByText := true, laidKinds := [.data, .pinned], laidTests := true, laidLooks := .later }
def SyntaxEqualsCardSaid : Prop := Claim7.holds Tryz.pinned (.plain (OpenSpec.ofChange syntaxEqualsSpec)) syntaxEqualsCard

/-- THE TIED CARD OF 'viatorlaw43.SyntaxReturns'. -/
def syntaxReturnsCard : Claim7 := { stood := { row := syntaxReturnsRow, standIns := [], harness := (true, "a2968d4e842be01dcf7a2639991ea45fb0edf82b218a085fa059066063450bb1"), looks := false }, kinds := [], alts := [], laidByText := true, laidKinds := [.data, .pinned], laidTests := true, laidLooks := .later }
def SyntaxReturnsCardSaid : Prop := Claim7.holds Tryz.pinned (.plain (OpenSpec.ofChange syntaxReturnsSpec)) syntaxReturnsCard

/-- THE SECOND FORM's CARD OF 'viatorlaw43.SyntaxNames'. -/
def syntaxNamesUptoCard : Claim7 := { stood := { row := syntaxNamesUptoRow, standIns := [], harness := (true, "a2968d4e842be01dcf7a2639991ea45fb0edf82b218a085fa059066063450bb1"), looks := false }, kinds := [], alts := [], laidByText := true, laidKinds := [.data, .pinned], laidTests := true, laidLooks := .later }
def SyntaxNamesUptoCardSaid : Prop := Claim7.holds Tryz.pinned (.plain (OpenSpec.upto syntaxNamesSpec)) syntaxNamesUptoCard

/-- THE SECOND FORM's CARD OF 'viatorlaw43.SyntaxChecks'. -/
def syntaxChecksUptoCard : Claim7 := { stood := { row := syntaxChecksUptoRow, standIns := [], harness := (true, "a2968d4e842be01dcf7a2639991ea45fb0edf82b218a085fa059066063450bb1"), looks := false }, kinds := [], alts := [], laidByText := true, laidKinds := [.data, .pinned], laidTests := true, laidLooks := .later }
def SyntaxChecksUptoCardSaid : Prop := Claim7.holds Tryz.pinned (.plain (OpenSpec.upto syntaxChecksSpec)) syntaxChecksUptoCard

/-- THE SECOND FORM's CARD OF 'viatorlaw43.SyntaxQueries'. -/
def syntaxQueriesUptoCard : Claim7 := { stood := { row := syntaxQueriesUptoRow, standIns := [], harness := (true, "a2968d4e842be01dcf7a2639991ea45fb0edf82b218a085fa059066063450bb1"), looks := false }, kinds := [], alts := [], laidByText := true, laidKinds := [.data, .pinned], laidTests := true, laidLooks := .later }
def SyntaxQueriesUptoCardSaid : Prop := Claim7.holds Tryz.pinned (.plain (OpenSpec.upto syntaxQueriesSpec)) syntaxQueriesUptoCard

/-- THE SECOND FORM's CARD OF 'viatorlaw43.SyntaxDeep'. -/
def syntaxDeepUptoCard : Claim7 := { stood := { row := syntaxDeepUptoRow, standIns := [], harness := (true, "a2968d4e842be01dcf7a2639991ea45fb0edf82b218a085fa059066063450bb1"), looks := false }, kinds := [], alts := [], laidByText := true, laidKinds := [.data, .pinned], laidTests := true, laidLooks := .later }
def SyntaxDeepUptoCardSaid : Prop := Claim7.holds Tryz.pinned (.plain (OpenSpec.upto syntaxDeepSpec)) syntaxDeepUptoCard

/-- THE SECOND FORM's CARD OF 'viatorlaw43.SyntaxSpaces'. -/
def syntaxSpacesUptoCard : Claim7 := { stood := { row := syntaxSpacesUptoRow, standIns := [], harness := (true, "a2968d4e842be01dcf7a2639991ea45fb0edf82b218a085fa059066063450bb1"), looks := false }, kinds := [], alts := [], laidByText := true, laidKinds := [.data, .pinned], laidTests := true, laidLooks := .later }
def SyntaxSpacesUptoCardSaid : Prop := Claim7.holds Tryz.pinned (.plain (OpenSpec.upto syntaxSpacesSpec)) syntaxSpacesUptoCard

/-- THE SECOND FORM's CARD OF 'viatorlaw43.SyntaxPrints'. -/
def syntaxPrintsUptoCard : Claim7 := { stood := { row := syntaxPrintsUptoRow, standIns := [], harness := (true, "a2968d4e842be01dcf7a2639991ea45fb0edf82b218a085fa059066063450bb1"), looks := false }, kinds := [], alts := [], laidByText := true, laidKinds := [.data, .pinned], laidTests := true, laidLooks := .later }
def SyntaxPrintsUptoCardSaid : Prop := Claim7.holds Tryz.pinned (.plain (OpenSpec.upto syntaxPrintsSpec)) syntaxPrintsUptoCard

/-- THE SECOND FORM's CARD OF 'viatorlaw43.SyntaxBinds'. -/
def syntaxBindsUptoCard : Claim7 := { stood := { row := syntaxBindsUptoRow, standIns := [], harness := (true, "a2968d4e842be01dcf7a2639991ea45fb0edf82b218a085fa059066063450bb1"), looks := false }, kinds := [], alts := [], laidByText := true, laidKinds := [.data, .pinned], laidTests := true, laidLooks := .later }
def SyntaxBindsUptoCardSaid : Prop := Claim7.holds Tryz.pinned (.plain (OpenSpec.upto syntaxBindsSpec)) syntaxBindsUptoCard

/-- THE SECOND FORM's CARD OF 'viatorlaw43.SyntaxEquals'. -/
def syntaxEqualsUptoCard : Claim7 := { stood := { row := syntaxEqualsUptoRow, standIns := [], harness := (true, "a2968d4e842be01dcf7a2639991ea45fb0edf82b218a085fa059066063450bb1"), looks := false }, kinds := [], alts := [], laidByText := true, laidKinds := [.data, .pinned], laidTests := true, laidLooks := .later }
def SyntaxEqualsUptoCardSaid : Prop := Claim7.holds Tryz.pinned (.plain (OpenSpec.upto syntaxEqualsSpec)) syntaxEqualsUptoCard

/-- THE SECOND FORM's CARD OF 'viatorlaw43.SyntaxReturns'. -/
def syntaxReturnsUptoCard : Claim7 := { stood := { row := syntaxReturnsUptoRow, standIns := [], harness := (true, "a2968d4e842be01dcf7a2639991ea45fb0edf82b218a085fa059066063450bb1"), looks := false }, kinds := [], alts := [], laidByText := true, laidKinds := [.data, .pinned], laidTests := true, laidLooks := .later }
def SyntaxReturnsUptoCardSaid : Prop := Claim7.holds Tryz.pinned (.plain (OpenSpec.upto syntaxReturnsSpec)) syntaxReturnsUptoCard
end Rows
end Go.Proofs.YtfijbadahkmhbaaGreatDoor
