/-
  DERIVED. GIVEN WITH THE SEED: THE CARDS: each row of YtfpgidpffhmadaaGreatDoorRows.lean that lists a variable, with what it lists TIED to the program's text (the seventh form; the later family's looks); each row that meets fmt, with fmt's text TOLD by the authors' own Lean function (tested against real Go, not proved from fmt's source: count such statements apart). THE CARD IS WHAT COUNTS. Prove the row's statement (the work); the ties are given (YtfpgidpffhmadaaGreatDoorTie.lean); close each card by the builder's one call (the guide's Derived/Test/ToyasCard.lean, 'card_holds'). Laid BY PROGRAM, IN A SANDBOX (cutbox-door.mjs). By AI agents, Wed Nov 11 2026. No macro, syntax, notation, axiom, sorry.
-/
import Derived.Test.YtfpgidpffhmadaaGreatDoorRows
import GoSem.ClaimSeven
namespace Go.Proofs.YtfpgidpffhmadaaGreatDoor
namespace Rows

/-- THE TIED CARD OF 'spillframelaw22.ValidateAcceptsTheOptimiser'. -/
def validateAcceptsTheOptimiserCard : Claim7 := { stood := { row := validateAcceptsTheOptimiserRow, standIns := [], harness := (true, "ee5aaae418fce14e70652326605488499517f8f51cf1f79af1ec3087d9014364"), looks := false }, kinds := [], alts := [], laidByText := true, laidKinds := [.data], laidTests := true, laidLooks := .later }
def ValidateAcceptsTheOptimiserCardSaid : Prop := Claim7.holds Tryz.pinned (.plain (OpenSpec.ofChange validateAcceptsTheOptimiserSpec)) validateAcceptsTheOptimiserCard

/-- THE SECOND FORM's CARD OF 'spillframelaw22.ValidateAcceptsTheOptimiser'. -/
def validateAcceptsTheOptimiserUptoCard : Claim7 := { stood := { row := validateAcceptsTheOptimiserUptoRow, standIns := [], harness := (true, "ee5aaae418fce14e70652326605488499517f8f51cf1f79af1ec3087d9014364"), looks := false }, kinds := [], alts := [], laidByText := true, laidKinds := [.data], laidTests := true, laidLooks := .later }
def ValidateAcceptsTheOptimiserUptoCardSaid : Prop := Claim7.holds Tryz.pinned (.plain (OpenSpec.upto validateAcceptsTheOptimiserSpec)) validateAcceptsTheOptimiserUptoCard
end Rows
end Go.Proofs.YtfpgidpffhmadaaGreatDoor
