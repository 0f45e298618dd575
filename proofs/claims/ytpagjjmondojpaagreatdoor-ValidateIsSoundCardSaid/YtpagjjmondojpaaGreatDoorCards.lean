/-
  DERIVED. GIVEN WITH THE SEED: THE CARDS: each row of YtpagjjmondojpaaGreatDoorRows.lean that lists a variable, with what it lists TIED to the program's text (the seventh form; the later family's looks); each row that meets fmt, with fmt's text TOLD by the authors' own Lean function (tested against real Go, not proved from fmt's source: count such statements apart). THE CARD IS WHAT COUNTS. Prove the row's statement (the work); the ties are given (YtpagjjmondojpaaGreatDoorTie.lean); close each card by the builder's one call (the guide's Derived/Test/ToyasCard.lean, 'card_holds'). Laid BY PROGRAM, IN A SANDBOX (cutbox-door.mjs). By AI agents, Wed Nov 11 2026. No macro, syntax, notation, axiom, sorry.
-/
import Derived.Test.YtpagjjmondojpaaGreatDoorRows
import GoSem.ClaimSeven
namespace Go.Proofs.YtpagjjmondojpaaGreatDoor
namespace Rows

/-- THE TIED CARD OF 'spillframelaw22.ValidateNeedsTheAnnotation'. -/
def validateNeedsTheAnnotationCard : Claim7 := { stood := { row := validateNeedsTheAnnotationRow, standIns := [], harness := (true, "5386922ce7fba2b65d39739942264181dc50e60adeb66cf857f817909edd7dc0"), looks := false }, kinds := [], alts := [], laidByText := true, laidKinds := [.data], laidTests := true, laidLooks := .later }
def ValidateNeedsTheAnnotationCardSaid : Prop := Claim7.holds Tryz.pinned (.plain (OpenSpec.ofChange validateNeedsTheAnnotationSpec)) validateNeedsTheAnnotationCard

/-- THE TIED CARD OF 'spillframelaw22.ValidateCheck'. -/
def validateCheckCard : Claim7 := { stood := { row := validateCheckRow, standIns := [], harness := (true, "5386922ce7fba2b65d39739942264181dc50e60adeb66cf857f817909edd7dc0"), looks := false }, kinds := [], alts := [], laidByText := true, laidKinds := [.data], laidTests := true, laidLooks := .later }
def ValidateCheckCardSaid : Prop := Claim7.holds Tryz.pinned (.plain (OpenSpec.ofChange validateCheckSpec)) validateCheckCard

/-- THE TIED CARD OF 'spillframelaw22.ValidateIsSound'. -/
def validateIsSoundCard : Claim7 := { stood := { row := validateIsSoundRow, standIns := [], harness := (true, "5386922ce7fba2b65d39739942264181dc50e60adeb66cf857f817909edd7dc0"), looks := false }, kinds := [], alts := [], laidByText := true, laidKinds := [.data], laidTests := true, laidLooks := .later }
def ValidateIsSoundCardSaid : Prop := Claim7.holds Tryz.pinned (.plain (OpenSpec.ofChange validateIsSoundSpec)) validateIsSoundCard

/-- THE SECOND FORM's CARD OF 'spillframelaw22.ValidateNeedsTheAnnotation'. -/
def validateNeedsTheAnnotationUptoCard : Claim7 := { stood := { row := validateNeedsTheAnnotationUptoRow, standIns := [], harness := (true, "5386922ce7fba2b65d39739942264181dc50e60adeb66cf857f817909edd7dc0"), looks := false }, kinds := [], alts := [], laidByText := true, laidKinds := [.data], laidTests := true, laidLooks := .later }
def ValidateNeedsTheAnnotationUptoCardSaid : Prop := Claim7.holds Tryz.pinned (.plain (OpenSpec.upto validateNeedsTheAnnotationSpec)) validateNeedsTheAnnotationUptoCard

/-- THE SECOND FORM's CARD OF 'spillframelaw22.ValidateCheck'. -/
def validateCheckUptoCard : Claim7 := { stood := { row := validateCheckUptoRow, standIns := [], harness := (true, "5386922ce7fba2b65d39739942264181dc50e60adeb66cf857f817909edd7dc0"), looks := false }, kinds := [], alts := [], laidByText := true, laidKinds := [.data], laidTests := true, laidLooks := .later }
def ValidateCheckUptoCardSaid : Prop := Claim7.holds Tryz.pinned (.plain (OpenSpec.upto validateCheckSpec)) validateCheckUptoCard

/-- THE SECOND FORM's CARD OF 'spillframelaw22.ValidateIsSound'. -/
def validateIsSoundUptoCard : Claim7 := { stood := { row := validateIsSoundUptoRow, standIns := [], harness := (true, "5386922ce7fba2b65d39739942264181dc50e60adeb66cf857f817909edd7dc0"), looks := false }, kinds := [], alts := [], laidByText := true, laidKinds := [.data], laidTests := true, laidLooks := .later }
def ValidateIsSoundUptoCardSaid : Prop := Claim7.holds Tryz.pinned (.plain (OpenSpec.upto validateIsSoundSpec)) validateIsSoundUptoCard
end Rows
end Go.Proofs.YtpagjjmondojpaaGreatDoor
