/-
  DERIVED. GIVEN WITH THE SEED: THE CARDS: each row of YtmmchhpdaogopaaGreatDoorRows.lean that lists a variable, with what it lists TIED to the program's text (the seventh form; the later family's looks); each row that meets fmt, with fmt's text TOLD by the authors' own Lean function (tested against real Go, not proved from fmt's source: count such statements apart). THE CARD IS WHAT COUNTS. Prove the row's statement (the work); the ties are given (YtmmchhpdaogopaaGreatDoorTie.lean); close each card by the builder's one call (the guide's Derived/Test/ToyasCard.lean, 'card_holds'). Laid BY PROGRAM, IN A SANDBOX (cutbox-door.mjs). By AI agents, Wed Nov 11 2026. No macro, syntax, notation, axiom, sorry.
-/
import Derived.Test.YtmmchhpdaogopaaGreatDoorRows
import GoSem.ClaimSeven
namespace Go.Proofs.YtmmchhpdaogopaaGreatDoor
namespace Rows

/-- THE TIED CARD OF 'spillframelaw32.DriverBuild'. -/
def driverBuildCard : Claim7 := { stood := { row := driverBuildRow, standIns := [], harness := (true, "59ede5ad78a85a0a9e34ba68e37683c5c4831d03029a99758627828a551bd4f4"), looks := false }, kinds := [], alts := [], laidByText := true, laidKinds := [.data, .data], laidTests := true, laidLooks := .later }
def DriverBuildCardSaid : Prop := Claim7.holds Tryz.pinned (.plain (OpenSpec.ofChange driverBuildSpec)) driverBuildCard

/-- THE TIED CARD OF 'spillframelaw33.ReportNeverSavesLessThanNothing'. -/
def reportNeverSavesLessThanNothingCard : Claim7 := { stood := { row := reportNeverSavesLessThanNothingRow, standIns := [], harness := (true, "59ede5ad78a85a0a9e34ba68e37683c5c4831d03029a99758627828a551bd4f4"), looks := false }, kinds := [], alts := [], laidByText := true, laidKinds := [.data, .data], laidTests := true, laidLooks := .later }
def ReportNeverSavesLessThanNothingCardSaid : Prop := Claim7.holds Tryz.pinned (.plain (OpenSpec.ofChange reportNeverSavesLessThanNothingSpec)) reportNeverSavesLessThanNothingCard

/-- THE SECOND FORM's CARD OF 'spillframelaw32.DriverBuild'. -/
def driverBuildUptoCard : Claim7 := { stood := { row := driverBuildUptoRow, standIns := [], harness := (true, "59ede5ad78a85a0a9e34ba68e37683c5c4831d03029a99758627828a551bd4f4"), looks := false }, kinds := [], alts := [], laidByText := true, laidKinds := [.data, .data], laidTests := true, laidLooks := .later }
def DriverBuildUptoCardSaid : Prop := Claim7.holds Tryz.pinned (.plain (OpenSpec.upto driverBuildSpec)) driverBuildUptoCard

/-- THE SECOND FORM's CARD OF 'spillframelaw33.ReportNeverSavesLessThanNothing'. -/
def reportNeverSavesLessThanNothingUptoCard : Claim7 := { stood := { row := reportNeverSavesLessThanNothingUptoRow, standIns := [], harness := (true, "59ede5ad78a85a0a9e34ba68e37683c5c4831d03029a99758627828a551bd4f4"), looks := false }, kinds := [], alts := [], laidByText := true, laidKinds := [.data, .data], laidTests := true, laidLooks := .later }
def ReportNeverSavesLessThanNothingUptoCardSaid : Prop := Claim7.holds Tryz.pinned (.plain (OpenSpec.upto reportNeverSavesLessThanNothingSpec)) reportNeverSavesLessThanNothingUptoCard
end Rows
end Go.Proofs.YtmmchhpdaogopaaGreatDoor
