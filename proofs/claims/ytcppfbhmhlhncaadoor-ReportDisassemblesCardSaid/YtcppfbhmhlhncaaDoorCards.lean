/-
  DERIVED. GIVEN WITH THE SEED: THE CARDS: each row of YtcppfbhmhlhncaaDoorRows.lean that lists a variable, with what it lists TIED to the program's text (the seventh form; the later family's looks); each row that meets fmt, with fmt's text TOLD by the authors' own Lean function (tested against real Go, not proved from fmt's source: count such statements apart). THE CARD IS WHAT COUNTS. Prove the row's statement (the work); the ties are given (YtcppfbhmhlhncaaDoorTie.lean); close each card by the builder's one call (the guide's Derived/Test/ToyasCard.lean, 'card_holds'). Laid BY PROGRAM, IN A SANDBOX (cutbox-door.mjs). By AI agents, Wed Nov 11 2026. No macro, syntax, notation, axiom, sorry.
-/
import Derived.Test.YtcppfbhmhlhncaaDoorRows
import GoSem.ClaimSeven
namespace Go.Proofs.YtcppfbhmhlhncaaDoor
namespace Rows

/-- THE TIED CARD OF 'spillframelaw33.ReportDisassembles'. -/
def reportDisassemblesCard : Claim7 := { stood := { row := reportDisassemblesRow, standIns := [], harness := (true, "0f22b4c9dc2065c92e0c57b9eae803b8b8e70eb52a4a28fee28092a7a1b7be25"), looks := true }, kinds := [], alts := [], laidByText := true, laidKinds := [.data, .data, .data, .data, .data], laidTests := true, laidLooks := .later }
def ReportDisassemblesCardSaid : Prop := Claim7.holds Tryd.pinned (.plain (OpenSpec.ofChange reportDisassemblesSpec)) reportDisassemblesCard

/-- THE SECOND FORM's CARD OF 'spillframelaw33.ReportDisassembles'. -/
def reportDisassemblesUptoCard : Claim7 := { stood := { row := reportDisassemblesUptoRow, standIns := [], harness := (true, "0f22b4c9dc2065c92e0c57b9eae803b8b8e70eb52a4a28fee28092a7a1b7be25"), looks := true }, kinds := [], alts := [], laidByText := true, laidKinds := [.data, .data, .data, .data, .data], laidTests := true, laidLooks := .later }
def ReportDisassemblesUptoCardSaid : Prop := Claim7.holds Tryd.pinned (.plain (OpenSpec.upto reportDisassemblesSpec)) reportDisassemblesUptoCard
end Rows
end Go.Proofs.YtcppfbhmhlhncaaDoor
