/-
  DERIVED. GIVEN WITH THE SEED: THE CARDS: each row of YtaffcpfhedadhaaGreatDoorRows.lean that lists a variable, with what it lists TIED to the program's text (the seventh form; the later family's looks); each row that meets fmt, with fmt's text TOLD by the authors' own Lean function (tested against real Go, not proved from fmt's source: count such statements apart). THE CARD IS WHAT COUNTS. Prove the row's statement (the work); the ties are given (YtaffcpfhedadhaaGreatDoorTie.lean); close each card by the builder's one call (the guide's Derived/Test/ToyasCard.lean, 'card_holds'). Laid BY PROGRAM, IN A SANDBOX (cutbox-door.mjs). By AI agents, Wed Nov 11 2026. No macro, syntax, notation, axiom, sorry.
-/
import Derived.Test.YtaffcpfhedadhaaGreatDoorRows
import GoSem.ClaimSeven
namespace Go.Proofs.YtaffcpfhedadhaaGreatDoor
namespace Rows

/-- THE TIED CARD OF 'viatorlaw32.ErrorboundProves'. -/
def errorboundProvesCard : Claim7 := { stood := { row := errorboundProvesRow, standIns := [], harness := (true, "22c2a8b91af355f9990650e16274c9752f30e059d6ffce83730e27080c718498"), looks := false }, kinds := [], alts := [], laidByText := true, laidKinds := [.data, .pinned], laidTests := true, laidLooks := .later }
def ErrorboundProvesCardSaid : Prop := Claim7.holds Tryz.pinned (.plain (OpenSpec.ofChange errorboundProvesSpec)) errorboundProvesCard

/-- THE TIED CARD OF 'viatorlaw32.ErrorboundHolds'. -/
def errorboundHoldsCard : Claim7 := { stood := { row := errorboundHoldsRow, standIns := [], harness := (true, "22c2a8b91af355f9990650e16274c9752f30e059d6ffce83730e27080c718498"), looks := false }, kinds := [], alts := [], laidByText := true, laidKinds := [.data, .pinned], laidTests := true, laidLooks := .later }
def ErrorboundHoldsCardSaid : Prop := Claim7.holds Tryz.pinned (.plain (OpenSpec.ofChange errorboundHoldsSpec)) errorboundHoldsCard

/-- THE TIED CARD OF 'viatorlaw32.ErrorboundChecks'. -/
def errorboundChecksCard : Claim7 := { stood := { row := errorboundChecksRow, standIns := [], harness := (true, "22c2a8b91af355f9990650e16274c9752f30e059d6ffce83730e27080c718498"), looks := false }, kinds := [], alts := [], laidByText := true, laidKinds := [.data, .pinned], laidTests := true, laidLooks := .later }
def ErrorboundChecksCardSaid : Prop := Claim7.holds Tryz.pinned (.plain (OpenSpec.ofChange errorboundChecksSpec)) errorboundChecksCard

/-- THE TIED CARD OF 'viatorlaw32.ErrorboundDivides'. -/
def errorboundDividesCard : Claim7 := { stood := { row := errorboundDividesRow, standIns := [], harness := (true, "22c2a8b91af355f9990650e16274c9752f30e059d6ffce83730e27080c718498"), looks := false }, kinds := [], alts := [], laidByText := true, laidKinds := [.data, .pinned], laidTests := true, laidLooks := .later }
def ErrorboundDividesCardSaid : Prop := Claim7.holds Tryz.pinned (.plain (OpenSpec.ofChange errorboundDividesSpec)) errorboundDividesCard

/-- THE TIED CARD OF 'viatorlaw32.ErrorboundCertifies'. -/
def errorboundCertifiesCard : Claim7 := { stood := { row := errorboundCertifiesRow, standIns := [], harness := (true, "22c2a8b91af355f9990650e16274c9752f30e059d6ffce83730e27080c718498"), looks := false }, kinds := [], alts := [], laidByText := true, laidKinds := [.data, .pinned], laidTests := true, laidLooks := .later }
def ErrorboundCertifiesCardSaid : Prop := Claim7.holds Tryz.pinned (.plain (OpenSpec.ofChange errorboundCertifiesSpec)) errorboundCertifiesCard

/-- THE TIED CARD OF 'viatorlaw32.ErrorboundMost'. -/
def errorboundMostCard : Claim7 := { stood := { row := errorboundMostRow, standIns := [], harness := (true, "22c2a8b91af355f9990650e16274c9752f30e059d6ffce83730e27080c718498"), looks := false }, kinds := [], alts := [], laidByText := true, laidKinds := [.data, .pinned], laidTests := true, laidLooks := .later }
def ErrorboundMostCardSaid : Prop := Claim7.holds Tryz.pinned (.plain (OpenSpec.ofChange errorboundMostSpec)) errorboundMostCard

/-- THE TIED CARD OF 'viatorlaw32.ErrorboundBounds'. -/
def errorboundBoundsCard : Claim7 := { stood := { row := errorboundBoundsRow, standIns := [], harness := (true, "22c2a8b91af355f9990650e16274c9752f30e059d6ffce83730e27080c718498"), looks := false }, kinds := [], alts := [], laidByText := true, laidKinds := [.data, .pinned], laidTests := true, laidLooks := .later }
def ErrorboundBoundsCardSaid : Prop := Claim7.holds Tryz.pinned (.plain (OpenSpec.ofChange errorboundBoundsSpec)) errorboundBoundsCard

/-- THE TIED CARD OF 'viatorlaw32.ErrorboundJoins'. -/
def errorboundJoinsCard : Claim7 := { stood := { row := errorboundJoinsRow, standIns := [], harness := (true, "22c2a8b91af355f9990650e16274c9752f30e059d6ffce83730e27080c718498"), looks := false }, kinds := [], alts := [], laidByText := true, laidKinds := [.data, .pinned], laidTests := true, laidLooks := .later }
def ErrorboundJoinsCardSaid : Prop := Claim7.holds Tryz.pinned (.plain (OpenSpec.ofChange errorboundJoinsSpec)) errorboundJoinsCard

/-- THE SECOND FORM's CARD OF 'viatorlaw32.ErrorboundProves'. -/
def errorboundProvesUptoCard : Claim7 := { stood := { row := errorboundProvesUptoRow, standIns := [], harness := (true, "22c2a8b91af355f9990650e16274c9752f30e059d6ffce83730e27080c718498"), looks := false }, kinds := [], alts := [], laidByText := true, laidKinds := [.data, .pinned], laidTests := true, laidLooks := .later }
def ErrorboundProvesUptoCardSaid : Prop := Claim7.holds Tryz.pinned (.plain (OpenSpec.upto errorboundProvesSpec)) errorboundProvesUptoCard

/-- THE SECOND FORM's CARD OF 'viatorlaw32.ErrorboundHolds'. -/
def errorboundHoldsUptoCard : Claim7 := { stood := { row := errorboundHoldsUptoRow, standIns := [], harness := (true, "22c2a8b91af355f9990650e16274c9752f30e059d6ffce83730e27080c718498"), looks := false }, kinds := [], alts := [], laidByText := true, laidKinds := [.data, .pinned], laidTests := true, laidLooks := .later }
def ErrorboundHoldsUptoCardSaid : Prop := Claim7.holds Tryz.pinned (.plain (OpenSpec.upto errorboundHoldsSpec)) errorboundHoldsUptoCard

/-- THE SECOND FORM's CARD OF 'viatorlaw32.ErrorboundChecks'. -/
def errorboundChecksUptoCard : Claim7 := { stood := { row := errorboundChecksUptoRow, standIns := [], harness := (true, "22c2a8b91af355f9990650e16274c9752f30e059d6ffce83730e27080c718498"), looks := false }, kinds := [], alts := [], laidByText := true, laidKinds := [.data, .pinned], laidTests := true, laidLooks := .later }
def ErrorboundChecksUptoCardSaid : Prop := Claim7.holds Tryz.pinned (.plain (OpenSpec.upto errorboundChecksSpec)) errorboundChecksUptoCard

/-- THE SECOND FORM's CARD OF 'viatorlaw32.ErrorboundDivides'. -/
def errorboundDividesUptoCard : Claim7 := { stood := { row := errorboundDividesUptoRow, standIns := [], harness := (true, "22c2a8b91af355f9990650e16274c9752f30e059d6ffce83730e27080c718498"), looks := false }, kinds := [], alts := [], laidByText := true, laidKinds := [.data, .pinned], laidTests := true, laidLooks := .later }
def ErrorboundDividesUptoCardSaid : Prop := Claim7.holds Tryz.pinned (.plain (OpenSpec.upto errorboundDividesSpec)) errorboundDividesUptoCard

/-- THE SECOND FORM's CARD OF 'viatorlaw32.ErrorboundCertifies'. -/
def errorboundCertifiesUptoCard : Claim7 := { stood := { row := errorboundCertifiesUptoRow, standIns := [], harness := (true, "22c2a8b91af355f9990650e16274c9752f30e059d6ffce83730e27080c718498"), looks := false }, kinds := [], alts := [], laidByText := true, laidKinds := [.data, .pinned], laidTests := true, laidLooks := .later }
def ErrorboundCertifiesUptoCardSaid : Prop := Claim7.holds Tryz.pinned (.plain (OpenSpec.upto errorboundCertifiesSpec)) errorboundCertifiesUptoCard

/-- THE SECOND FORM's CARD OF 'viatorlaw32.ErrorboundMost'. -/
def errorboundMostUptoCard : Claim7 := { stood := { row := errorboundMostUptoRow, standIns := [], harness := (true, "22c2a8b91af355f9990650e16274c9752f30e059d6ffce83730e27080c718498"), looks := false }, kinds := [], alts := [], laidByText := true, laidKinds := [.data, .pinned], laidTests := true, laidLooks := .later }
def ErrorboundMostUptoCardSaid : Prop := Claim7.holds Tryz.pinned (.plain (OpenSpec.upto errorboundMostSpec)) errorboundMostUptoCard

/-- THE SECOND FORM's CARD OF 'viatorlaw32.ErrorboundBounds'. -/
def errorboundBoundsUptoCard : Claim7 := { stood := { row := errorboundBoundsUptoRow, standIns := [], harness := (true, "22c2a8b91af355f9990650e16274c9752f30e059d6ffce83730e27080c718498"), looks := false }, kinds := [], alts := [], laidByText := true, laidKinds := [.data, .pinned], laidTests := true, laidLooks := .later }
def ErrorboundBoundsUptoCardSaid : Prop := Claim7.holds Tryz.pinned (.plain (OpenSpec.upto errorboundBoundsSpec)) errorboundBoundsUptoCard

/-- THE SECOND FORM's CARD OF 'viatorlaw32.ErrorboundJoins'. -/
def errorboundJoinsUptoCard : Claim7 := { stood := { row := errorboundJoinsUptoRow, standIns := [], harness := (true, "22c2a8b91af355f9990650e16274c9752f30e059d6ffce83730e27080c718498"), looks := false }, kinds := [], alts := [], laidByText := true, laidKinds := [.data, .pinned], laidTests := true, laidLooks := .later }
def ErrorboundJoinsUptoCardSaid : Prop := Claim7.holds Tryz.pinned (.plain (OpenSpec.upto errorboundJoinsSpec)) errorboundJoinsUptoCard
end Rows
end Go.Proofs.YtaffcpfhedadhaaGreatDoor
