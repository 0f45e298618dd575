/-
  DERIVED. GIVEN WITH THE SEED: THE CARDS: each row of YtilmapojncgflaaGreatDoorRows.lean that lists a variable, with what it lists TIED to the program's text (the seventh form; the later family's looks); each row that meets fmt, with fmt's text TOLD by the authors' own Lean function (tested against real Go, not proved from fmt's source: count such statements apart). THE CARD IS WHAT COUNTS. Prove the row's statement (the work); the ties are given (YtilmapojncgflaaGreatDoorTie.lean); close each card by the builder's one call (the guide's Derived/Test/ToyasCard.lean, 'card_holds'). Laid BY PROGRAM, IN A SANDBOX (cutbox-door.mjs). By AI agents, Wed Nov 11 2026. No macro, syntax, notation, axiom, sorry.
-/
import Derived.Test.YtilmapojncgflaaGreatDoorRows
import GoSem.ClaimSeven
namespace Go.Proofs.YtilmapojncgflaaGreatDoor
namespace Rows

/-- THE TIED CARD OF 'spillframelaw31.OptimiseOnly'. -/
def optimiseOnlyCard : Claim7 := { stood := { row := optimiseOnlyRow, standIns := [], harness := (true, "bf68e170c7253951dbfb489f5c973c62f427fe20678502385840cc021337a190"), looks := false }, kinds := [], alts := [], laidByText := true, laidKinds := [.data], laidTests := true, laidLooks := .later }
def OptimiseOnlyCardSaid : Prop := Claim7.holds Tryz.pinned (.plain (OpenSpec.ofChange optimiseOnlySpec)) optimiseOnlyCard

/-- THE TIED CARD OF 'spillframelaw31.OptimiseIsAccepted'. -/
def optimiseIsAcceptedCard : Claim7 := { stood := { row := optimiseIsAcceptedRow, standIns := [], harness := (true, "bf68e170c7253951dbfb489f5c973c62f427fe20678502385840cc021337a190"), looks := false }, kinds := [], alts := [], laidByText := true, laidKinds := [.data], laidTests := true, laidLooks := .later }
def OptimiseIsAcceptedCardSaid : Prop := Claim7.holds Tryz.pinned (.plain (OpenSpec.ofChange optimiseIsAcceptedSpec)) optimiseIsAcceptedCard

/-- THE TIED CARD OF 'spillframelaw31.OptimiseRemovesMoves'. -/
def optimiseRemovesMovesCard : Claim7 := { stood := { row := optimiseRemovesMovesRow, standIns := [], harness := (true, "bf68e170c7253951dbfb489f5c973c62f427fe20678502385840cc021337a190"), looks := false }, kinds := [], alts := [], laidByText := true, laidKinds := [.data], laidTests := true, laidLooks := .later }
def OptimiseRemovesMovesCardSaid : Prop := Claim7.holds Tryz.pinned (.plain (OpenSpec.ofChange optimiseRemovesMovesSpec)) optimiseRemovesMovesCard

/-- THE TIED CARD OF 'spillframelaw31.OptimisePropose'. -/
def optimiseProposeCard : Claim7 := { stood := { row := optimiseProposeRow, standIns := [], harness := (true, "bf68e170c7253951dbfb489f5c973c62f427fe20678502385840cc021337a190"), looks := false }, kinds := [], alts := [], laidByText := true, laidKinds := [.data], laidTests := true, laidLooks := .later }
def OptimiseProposeCardSaid : Prop := Claim7.holds Tryz.pinned (.plain (OpenSpec.ofChange optimiseProposeSpec)) optimiseProposeCard

/-- THE SECOND FORM's CARD OF 'spillframelaw31.OptimiseOnly'. -/
def optimiseOnlyUptoCard : Claim7 := { stood := { row := optimiseOnlyUptoRow, standIns := [], harness := (true, "bf68e170c7253951dbfb489f5c973c62f427fe20678502385840cc021337a190"), looks := false }, kinds := [], alts := [], laidByText := true, laidKinds := [.data], laidTests := true, laidLooks := .later }
def OptimiseOnlyUptoCardSaid : Prop := Claim7.holds Tryz.pinned (.plain (OpenSpec.upto optimiseOnlySpec)) optimiseOnlyUptoCard

/-- THE SECOND FORM's CARD OF 'spillframelaw31.OptimiseIsAccepted'. -/
def optimiseIsAcceptedUptoCard : Claim7 := { stood := { row := optimiseIsAcceptedUptoRow, standIns := [], harness := (true, "bf68e170c7253951dbfb489f5c973c62f427fe20678502385840cc021337a190"), looks := false }, kinds := [], alts := [], laidByText := true, laidKinds := [.data], laidTests := true, laidLooks := .later }
def OptimiseIsAcceptedUptoCardSaid : Prop := Claim7.holds Tryz.pinned (.plain (OpenSpec.upto optimiseIsAcceptedSpec)) optimiseIsAcceptedUptoCard

/-- THE SECOND FORM's CARD OF 'spillframelaw31.OptimiseRemovesMoves'. -/
def optimiseRemovesMovesUptoCard : Claim7 := { stood := { row := optimiseRemovesMovesUptoRow, standIns := [], harness := (true, "bf68e170c7253951dbfb489f5c973c62f427fe20678502385840cc021337a190"), looks := false }, kinds := [], alts := [], laidByText := true, laidKinds := [.data], laidTests := true, laidLooks := .later }
def OptimiseRemovesMovesUptoCardSaid : Prop := Claim7.holds Tryz.pinned (.plain (OpenSpec.upto optimiseRemovesMovesSpec)) optimiseRemovesMovesUptoCard

/-- THE SECOND FORM's CARD OF 'spillframelaw31.OptimisePropose'. -/
def optimiseProposeUptoCard : Claim7 := { stood := { row := optimiseProposeUptoRow, standIns := [], harness := (true, "bf68e170c7253951dbfb489f5c973c62f427fe20678502385840cc021337a190"), looks := false }, kinds := [], alts := [], laidByText := true, laidKinds := [.data], laidTests := true, laidLooks := .later }
def OptimiseProposeUptoCardSaid : Prop := Claim7.holds Tryz.pinned (.plain (OpenSpec.upto optimiseProposeSpec)) optimiseProposeUptoCard
end Rows
end Go.Proofs.YtilmapojncgflaaGreatDoor
