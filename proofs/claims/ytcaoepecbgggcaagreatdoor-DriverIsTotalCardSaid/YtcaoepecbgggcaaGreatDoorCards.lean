/-
  DERIVED. GIVEN WITH THE SEED: THE CARDS: each row of YtcaoepecbgggcaaGreatDoorRows.lean that lists a variable, with what it lists TIED to the program's text (the seventh form; the later family's looks); each row that meets fmt, with fmt's text TOLD by the authors' own Lean function (tested against real Go, not proved from fmt's source: count such statements apart). THE CARD IS WHAT COUNTS. Prove the row's statement (the work); the ties are given (YtcaoepecbgggcaaGreatDoorTie.lean); close each card by the builder's one call (the guide's Derived/Test/ToyasCard.lean, 'card_holds'). Laid BY PROGRAM, IN A SANDBOX (cutbox-door.mjs). By AI agents, Wed Nov 11 2026. No macro, syntax, notation, axiom, sorry.
-/
import Derived.Test.YtcaoepecbgggcaaGreatDoorRows
import GoSem.ClaimSeven
namespace Go.Proofs.YtcaoepecbgggcaaGreatDoor
namespace Rows

/-- THE TIED CARD OF 'spillframelaw32.DriverChoose'. -/
def driverChooseCard : Claim7 := { stood := { row := driverChooseRow, standIns := [], harness := (true, "21fe10a0002c27421bda3110228641d4568c42862fae462e89c8c481f7ce6d93"), looks := false }, kinds := [], alts := [], laidByText := true, laidKinds := [.data, .data], laidTests := true, laidLooks := .later }
def DriverChooseCardSaid : Prop := Claim7.holds Tryz.pinned (.plain (OpenSpec.ofChange driverChooseSpec)) driverChooseCard

/-- THE TIED CARD OF 'spillframelaw32.DriverBuild'. -/
def driverBuildCard : Claim7 := { stood := { row := driverBuildRow, standIns := [], harness := (true, "21fe10a0002c27421bda3110228641d4568c42862fae462e89c8c481f7ce6d93"), looks := false }, kinds := [], alts := [], laidByText := true, laidKinds := [.data, .data], laidTests := true, laidLooks := .later }
def DriverBuildCardSaid : Prop := Claim7.holds Tryz.pinned (.plain (OpenSpec.ofChange driverBuildSpec)) driverBuildCard

/-- THE TIED CARD OF 'spillframelaw32.DriverIsTotal'. -/
def driverIsTotalCard : Claim7 := { stood := { row := driverIsTotalRow, standIns := [], harness := (true, "21fe10a0002c27421bda3110228641d4568c42862fae462e89c8c481f7ce6d93"), looks := false }, kinds := [], alts := [], laidByText := true, laidKinds := [.data, .data], laidTests := true, laidLooks := .later }
def DriverIsTotalCardSaid : Prop := Claim7.holds Tryz.pinned (.plain (OpenSpec.ofChange driverIsTotalSpec)) driverIsTotalCard

/-- THE TIED CARD OF 'spillframelaw32.DriverBuildsAreCertified'. -/
def driverBuildsAreCertifiedCard : Claim7 := { stood := { row := driverBuildsAreCertifiedRow, standIns := [], harness := (true, "21fe10a0002c27421bda3110228641d4568c42862fae462e89c8c481f7ce6d93"), looks := false }, kinds := [], alts := [], laidByText := true, laidKinds := [.data, .data], laidTests := true, laidLooks := .later }
def DriverBuildsAreCertifiedCardSaid : Prop := Claim7.holds Tryz.pinned (.plain (OpenSpec.ofChange driverBuildsAreCertifiedSpec)) driverBuildsAreCertifiedCard

/-- THE TIED CARD OF 'spillframelaw32.DriverTakesTheOptimiser'. -/
def driverTakesTheOptimiserCard : Claim7 := { stood := { row := driverTakesTheOptimiserRow, standIns := [], harness := (true, "21fe10a0002c27421bda3110228641d4568c42862fae462e89c8c481f7ce6d93"), looks := false }, kinds := [], alts := [], laidByText := true, laidKinds := [.data, .data], laidTests := true, laidLooks := .later }
def DriverTakesTheOptimiserCardSaid : Prop := Claim7.holds Tryz.pinned (.plain (OpenSpec.ofChange driverTakesTheOptimiserSpec)) driverTakesTheOptimiserCard

/-- THE TIED CARD OF 'spillframelaw32.DriverOverflows'. -/
def driverOverflowsCard : Claim7 := { stood := { row := driverOverflowsRow, standIns := [], harness := (true, "21fe10a0002c27421bda3110228641d4568c42862fae462e89c8c481f7ce6d93"), looks := false }, kinds := [], alts := [], laidByText := true, laidKinds := [.data, .data], laidTests := true, laidLooks := .later }
def DriverOverflowsCardSaid : Prop := Claim7.holds Tryz.pinned (.plain (OpenSpec.ofChange driverOverflowsSpec)) driverOverflowsCard

/-- THE SECOND FORM's CARD OF 'spillframelaw32.DriverChoose'. -/
def driverChooseUptoCard : Claim7 := { stood := { row := driverChooseUptoRow, standIns := [], harness := (true, "21fe10a0002c27421bda3110228641d4568c42862fae462e89c8c481f7ce6d93"), looks := false }, kinds := [], alts := [], laidByText := true, laidKinds := [.data, .data], laidTests := true, laidLooks := .later }
def DriverChooseUptoCardSaid : Prop := Claim7.holds Tryz.pinned (.plain (OpenSpec.upto driverChooseSpec)) driverChooseUptoCard

/-- THE SECOND FORM's CARD OF 'spillframelaw32.DriverBuild'. -/
def driverBuildUptoCard : Claim7 := { stood := { row := driverBuildUptoRow, standIns := [], harness := (true, "21fe10a0002c27421bda3110228641d4568c42862fae462e89c8c481f7ce6d93"), looks := false }, kinds := [], alts := [], laidByText := true, laidKinds := [.data, .data], laidTests := true, laidLooks := .later }
def DriverBuildUptoCardSaid : Prop := Claim7.holds Tryz.pinned (.plain (OpenSpec.upto driverBuildSpec)) driverBuildUptoCard

/-- THE SECOND FORM's CARD OF 'spillframelaw32.DriverIsTotal'. -/
def driverIsTotalUptoCard : Claim7 := { stood := { row := driverIsTotalUptoRow, standIns := [], harness := (true, "21fe10a0002c27421bda3110228641d4568c42862fae462e89c8c481f7ce6d93"), looks := false }, kinds := [], alts := [], laidByText := true, laidKinds := [.data, .data], laidTests := true, laidLooks := .later }
def DriverIsTotalUptoCardSaid : Prop := Claim7.holds Tryz.pinned (.plain (OpenSpec.upto driverIsTotalSpec)) driverIsTotalUptoCard

/-- THE SECOND FORM's CARD OF 'spillframelaw32.DriverBuildsAreCertified'. -/
def driverBuildsAreCertifiedUptoCard : Claim7 := { stood := { row := driverBuildsAreCertifiedUptoRow, standIns := [], harness := (true, "21fe10a0002c27421bda3110228641d4568c42862fae462e89c8c481f7ce6d93"), looks := false }, kinds := [], alts := [], laidByText := true, laidKinds := [.data, .data], laidTests := true, laidLooks := .later }
def DriverBuildsAreCertifiedUptoCardSaid : Prop := Claim7.holds Tryz.pinned (.plain (OpenSpec.upto driverBuildsAreCertifiedSpec)) driverBuildsAreCertifiedUptoCard

/-- THE SECOND FORM's CARD OF 'spillframelaw32.DriverTakesTheOptimiser'. -/
def driverTakesTheOptimiserUptoCard : Claim7 := { stood := { row := driverTakesTheOptimiserUptoRow, standIns := [], harness := (true, "21fe10a0002c27421bda3110228641d4568c42862fae462e89c8c481f7ce6d93"), looks := false }, kinds := [], alts := [], laidByText := true, laidKinds := [.data, .data], laidTests := true, laidLooks := .later }
def DriverTakesTheOptimiserUptoCardSaid : Prop := Claim7.holds Tryz.pinned (.plain (OpenSpec.upto driverTakesTheOptimiserSpec)) driverTakesTheOptimiserUptoCard

/-- THE SECOND FORM's CARD OF 'spillframelaw32.DriverOverflows'. -/
def driverOverflowsUptoCard : Claim7 := { stood := { row := driverOverflowsUptoRow, standIns := [], harness := (true, "21fe10a0002c27421bda3110228641d4568c42862fae462e89c8c481f7ce6d93"), looks := false }, kinds := [], alts := [], laidByText := true, laidKinds := [.data, .data], laidTests := true, laidLooks := .later }
def DriverOverflowsUptoCardSaid : Prop := Claim7.holds Tryz.pinned (.plain (OpenSpec.upto driverOverflowsSpec)) driverOverflowsUptoCard
end Rows
end Go.Proofs.YtcaoepecbgggcaaGreatDoor
