/-
  DERIVED. GIVEN WITH THE SEED: THE CARDS: each row of YthnlafhnpphdhaaGreatDoorRows.lean that lists a variable, with what it lists TIED to the program's text (the seventh form; the later family's looks); each row that meets fmt, with fmt's text TOLD by the authors' own Lean function (tested against real Go, not proved from fmt's source: count such statements apart). THE CARD IS WHAT COUNTS. Prove the row's statement (the work); the ties are given (YthnlafhnpphdhaaGreatDoorTie.lean); close each card by the builder's one call (the guide's Derived/Test/ToyasCard.lean, 'card_holds'). Laid BY PROGRAM, IN A SANDBOX (cutbox-door.mjs). By AI agents, Wed Nov 11 2026. No macro, syntax, notation, axiom, sorry.
-/
import Derived.Test.YthnlafhnpphdhaaGreatDoorRows
import GoSem.ClaimSeven
namespace Go.Proofs.YthnlafhnpphdhaaGreatDoor
namespace Rows

/-- THE TIED CARD OF 'viatorlaw07.PlaneVectors'. -/
def planeVectorsCard : Claim7 := { stood := { row := planeVectorsRow, standIns := [], harness := (true, "d750cd2ad280226382568fd330bb3c16b2ba9599c082bca3d52c2ccb885ddcf1"), looks := false }, kinds := [], alts := [], laidByText := true, laidKinds := [.data, .pinned], laidTests := true, laidLooks := .later }
def PlaneVectorsCardSaid : Prop := Claim7.holds Tryz.pinned (.plain (OpenSpec.ofChange planeVectorsSpec)) planeVectorsCard

/-- THE TIED CARD OF 'viatorlaw07.PlaneMeets'. -/
def planeMeetsCard : Claim7 := { stood := { row := planeMeetsRow, standIns := [], harness := (true, "d750cd2ad280226382568fd330bb3c16b2ba9599c082bca3d52c2ccb885ddcf1"), looks := false }, kinds := [], alts := [], laidByText := true, laidKinds := [.data, .pinned], laidTests := true, laidLooks := .later }
def PlaneMeetsCardSaid : Prop := Claim7.holds Tryz.pinned (.plain (OpenSpec.ofChange planeMeetsSpec)) planeMeetsCard

/-- THE TIED CARD OF 'viatorlaw07.PlaneCommon'. -/
def planeCommonCard : Claim7 := { stood := { row := planeCommonRow, standIns := [], harness := (true, "d750cd2ad280226382568fd330bb3c16b2ba9599c082bca3d52c2ccb885ddcf1"), looks := false }, kinds := [], alts := [], laidByText := true, laidKinds := [.data, .pinned], laidTests := true, laidLooks := .later }
def PlaneCommonCardSaid : Prop := Claim7.holds Tryz.pinned (.plain (OpenSpec.ofChange planeCommonSpec)) planeCommonCard

/-- THE TIED CARD OF 'viatorlaw07.PlaneNearest'. -/
def planeNearestCard : Claim7 := { stood := { row := planeNearestRow, standIns := [], harness := (true, "d750cd2ad280226382568fd330bb3c16b2ba9599c082bca3d52c2ccb885ddcf1"), looks := false }, kinds := [], alts := [], laidByText := true, laidKinds := [.data, .pinned], laidTests := true, laidLooks := .later }
def PlaneNearestCardSaid : Prop := Claim7.holds Tryz.pinned (.plain (OpenSpec.ofChange planeNearestSpec)) planeNearestCard

/-- THE TIED CARD OF 'viatorlaw07.PlaneOrders'. -/
def planeOrdersCard : Claim7 := { stood := { row := planeOrdersRow, standIns := [], harness := (true, "d750cd2ad280226382568fd330bb3c16b2ba9599c082bca3d52c2ccb885ddcf1"), looks := false }, kinds := [], alts := [], laidByText := true, laidKinds := [.data, .pinned], laidTests := true, laidLooks := .later }
def PlaneOrdersCardSaid : Prop := Claim7.holds Tryz.pinned (.plain (OpenSpec.ofChange planeOrdersSpec)) planeOrdersCard

/-- THE TIED CARD OF 'viatorlaw07.PlaneTurns'. -/
def planeTurnsCard : Claim7 := { stood := { row := planeTurnsRow, standIns := [], harness := (true, "d750cd2ad280226382568fd330bb3c16b2ba9599c082bca3d52c2ccb885ddcf1"), looks := false }, kinds := [], alts := [], laidByText := true, laidKinds := [.data, .pinned], laidTests := true, laidLooks := .later }
def PlaneTurnsCardSaid : Prop := Claim7.holds Tryz.pinned (.plain (OpenSpec.ofChange planeTurnsSpec)) planeTurnsCard

/-- THE TIED CARD OF 'viatorlaw07.PlaneDistances'. -/
def planeDistancesCard : Claim7 := { stood := { row := planeDistancesRow, standIns := [], harness := (true, "d750cd2ad280226382568fd330bb3c16b2ba9599c082bca3d52c2ccb885ddcf1"), looks := false }, kinds := [], alts := [], laidByText := true, laidKinds := [.data, .pinned], laidTests := true, laidLooks := .later }
def PlaneDistancesCardSaid : Prop := Claim7.holds Tryz.pinned (.plain (OpenSpec.ofChange planeDistancesSpec)) planeDistancesCard

/-- THE TIED CARD OF 'viatorlaw07.PlaneLeast'. -/
def planeLeastCard : Claim7 := { stood := { row := planeLeastRow, standIns := [], harness := (true, "d750cd2ad280226382568fd330bb3c16b2ba9599c082bca3d52c2ccb885ddcf1"), looks := false }, kinds := [], alts := [], laidByText := true, laidKinds := [.data, .pinned], laidTests := true, laidLooks := .later }
def PlaneLeastCardSaid : Prop := Claim7.holds Tryz.pinned (.plain (OpenSpec.ofChange planeLeastSpec)) planeLeastCard

/-- THE TIED CARD OF 'viatorlaw07.PlaneChecks'. -/
def planeChecksCard : Claim7 := { stood := { row := planeChecksRow, standIns := [], harness := (true, "d750cd2ad280226382568fd330bb3c16b2ba9599c082bca3d52c2ccb885ddcf1"), looks := false }, kinds := [], alts := [], laidByText := true, laidKinds := [.data, .pinned], laidTests := true, laidLooks := .later }
def PlaneChecksCardSaid : Prop := Claim7.holds Tryz.pinned (.plain (OpenSpec.ofChange planeChecksSpec)) planeChecksCard

/-- THE TIED CARD OF 'viatorlaw07.PlaneBoxes'. -/
def planeBoxesCard : Claim7 := { stood := { row := planeBoxesRow, standIns := [], harness := (true, "d750cd2ad280226382568fd330bb3c16b2ba9599c082bca3d52c2ccb885ddcf1"), looks := false }, kinds := [], alts := [], laidByText := true, laidKinds := [.data, .pinned], laidTests := true, laidLooks := .later }
def PlaneBoxesCardSaid : Prop := Claim7.holds Tryz.pinned (.plain (OpenSpec.ofChange planeBoxesSpec)) planeBoxesCard

/-- THE SECOND FORM's CARD OF 'viatorlaw07.PlaneVectors'. -/
def planeVectorsUptoCard : Claim7 := { stood := { row := planeVectorsUptoRow, standIns := [], harness := (true, "d750cd2ad280226382568fd330bb3c16b2ba9599c082bca3d52c2ccb885ddcf1"), looks := false }, kinds := [], alts := [], laidByText := true, laidKinds := [.data, .pinned], laidTests := true, laidLooks := .later }
def PlaneVectorsUptoCardSaid : Prop := Claim7.holds Tryz.pinned (.plain (OpenSpec.upto planeVectorsSpec)) planeVectorsUptoCard

/-- THE SECOND FORM's CARD OF 'viatorlaw07.PlaneMeets'. -/
def planeMeetsUptoCard : Claim7 := { stood := { row := planeMeetsUptoRow, standIns := [], harness := (true, "d750cd2ad280226382568fd330bb3c16b2ba9599c082bca3d52c2ccb885ddcf1"), looks := false }, kinds := [], alts := [], laidByText := true, laidKinds := [.data, .pinned], laidTests := true, laidLooks := .later }
def PlaneMeetsUptoCardSaid : Prop := Claim7.holds Tryz.pinned (.plain (OpenSpec.upto planeMeetsSpec)) planeMeetsUptoCard

/-- THE SECOND FORM's CARD OF 'viatorlaw07.PlaneCommon'. -/
def planeCommonUptoCard : Claim7 := { stood := { row := planeCommonUptoRow, standIns := [], harness := (true, "d750cd2ad280226382568fd330bb3c16b2ba9599c082bca3d52c2ccb885ddcf1"), looks := false }, kinds := [], alts := [], laidByText := true, laidKinds := [.data, .pinned], laidTests := true, laidLooks := .later }
def PlaneCommonUptoCardSaid : Prop := Claim7.holds Tryz.pinned (.plain (OpenSpec.upto planeCommonSpec)) planeCommonUptoCard

/-- THE SECOND FORM's CARD OF 'viatorlaw07.PlaneNearest'. -/
def planeNearestUptoCard : Claim7 := { stood := { row := planeNearestUptoRow, standIns := [], harness := (true, "d750cd2ad280226382568fd330bb3c16b2ba9599c082bca3d52c2ccb885ddcf1"), looks := false }, kinds := [], alts := [], laidByText := true, laidKinds := [.data, .pinned], laidTests := true, laidLooks := .later }
def PlaneNearestUptoCardSaid : Prop := Claim7.holds Tryz.pinned (.plain (OpenSpec.upto planeNearestSpec)) planeNearestUptoCard

/-- THE SECOND FORM's CARD OF 'viatorlaw07.PlaneOrders'. -/
def planeOrdersUptoCard : Claim7 := { stood := { row := planeOrdersUptoRow, standIns := [], harness := (true, "d750cd2ad280226382568fd330bb3c16b2ba9599c082bca3d52c2ccb885ddcf1"), looks := false }, kinds := [], alts := [], laidByText := true, laidKinds := [.data, .pinned], laidTests := true, laidLooks := .later }
def PlaneOrdersUptoCardSaid : Prop := Claim7.holds Tryz.pinned (.plain (OpenSpec.upto planeOrdersSpec)) planeOrdersUptoCard

/-- THE SECOND FORM's CARD OF 'viatorlaw07.PlaneTurns'. -/
def planeTurnsUptoCard : Claim7 := { stood := { row := planeTurnsUptoRow, standIns := [], harness := (true, "d750cd2ad280226382568fd330bb3c16b2ba9599c082bca3d52c2ccb885ddcf1"), looks := false }, kinds := [], alts := [], laidByText := true, laidKinds := [.data, .pinned], laidTests := true, laidLooks := .later }
def PlaneTurnsUptoCardSaid : Prop := Claim7.holds Tryz.pinned (.plain (OpenSpec.upto planeTurnsSpec)) planeTurnsUptoCard

/-- THE SECOND FORM's CARD OF 'viatorlaw07.PlaneDistances'. -/
def planeDistancesUptoCard : Claim7 := { stood := { row := planeDistancesUptoRow, standIns := [], harness := (true, "d750cd2ad280226382568fd330bb3c16b2ba9599c082bca3d52c2ccb885ddcf1"), looks := false }, kinds := [], alts := [], laidByText := true, laidKinds := [.data, .pinned], laidTests := true, laidLooks := .later }
def PlaneDistancesUptoCardSaid : Prop := Claim7.holds Tryz.pinned (.plain (OpenSpec.upto planeDistancesSpec)) planeDistancesUptoCard

/-- THE SECOND FORM's CARD OF 'viatorlaw07.PlaneLeast'. -/
def planeLeastUptoCard : Claim7 := { stood := { row := planeLeastUptoRow, standIns := [], harness := (true, "d750cd2ad280226382568fd330bb3c16b2ba9599c082bca3d52c2ccb885ddcf1"), looks := false }, kinds := [], alts := [], laidByText := true, laidKinds := [.data, .pinned], laidTests := true, laidLooks := .later }
def PlaneLeastUptoCardSaid : Prop := Claim7.holds Tryz.pinned (.plain (OpenSpec.upto planeLeastSpec)) planeLeastUptoCard

/-- THE SECOND FORM's CARD OF 'viatorlaw07.PlaneChecks'. -/
def planeChecksUptoCard : Claim7 := { stood := { row := planeChecksUptoRow, standIns := [], harness := (true, "d750cd2ad280226382568fd330bb3c16b2ba9599c082bca3d52c2ccb885ddcf1"), looks := false }, kinds := [], alts := [], laidByText := true, laidKinds := [.data, .pinned], laidTests := true, laidLooks := .later }
def PlaneChecksUptoCardSaid : Prop := Claim7.holds Tryz.pinned (.plain (OpenSpec.upto planeChecksSpec)) planeChecksUptoCard

/-- THE SECOND FORM's CARD OF 'viatorlaw07.PlaneBoxes'. -/
def planeBoxesUptoCard : Claim7 := { stood := { row := planeBoxesUptoRow, standIns := [], harness := (true, "d750cd2ad280226382568fd330bb3c16b2ba9599c082bca3d52c2ccb885ddcf1"), looks := false }, kinds := [], alts := [], laidByText := true, laidKinds := [.data, .pinned], laidTests := true, laidLooks := .later }
def PlaneBoxesUptoCardSaid : Prop := Claim7.holds Tryz.pinned (.plain (OpenSpec.upto planeBoxesSpec)) planeBoxesUptoCard
end Rows
end Go.Proofs.YthnlafhnpphdhaaGreatDoor
