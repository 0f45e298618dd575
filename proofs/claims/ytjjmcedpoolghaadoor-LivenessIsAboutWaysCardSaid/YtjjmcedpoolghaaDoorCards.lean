/-
  DERIVED. GIVEN WITH THE SEED: THE CARDS: each row of YtjjmcedpoolghaaDoorRows.lean that lists a variable, with what it lists TIED to the program's text (the seventh form; the later family's looks); each row that meets fmt, with fmt's text TOLD by the authors' own Lean function (tested against real Go, not proved from fmt's source: count such statements apart). THE CARD IS WHAT COUNTS. Prove the row's statement (the work); the ties are given (YtjjmcedpoolghaaDoorTie.lean); close each card by the builder's one call (the guide's Derived/Test/ToyasCard.lean, 'card_holds'). Laid BY PROGRAM, IN A SANDBOX (cutbox-door.mjs). By AI agents, Wed Nov 11 2026. No macro, syntax, notation, axiom, sorry.
-/
import Derived.Test.YtjjmcedpoolghaaDoorRows
import GoSem.ClaimSeven
namespace Go.Proofs.YtjjmcedpoolghaaDoor
namespace Rows

/-- THE TIED CARD OF 'spillframelaw16.LivenessIsAboutWays'. -/
def livenessIsAboutWaysCard : Claim7 := { stood := { row := livenessIsAboutWaysRow, standIns := [], harness := (true, "f2b5552e310d0e9587a8090142916332574b1034b5c9b6862270b8a1810fc78d"), looks := false }, kinds := [], alts := [], laidByText := true, laidKinds := [.data], laidTests := true, laidLooks := .later }
def LivenessIsAboutWaysCardSaid : Prop := Claim7.holds Tryd.pinned (.plain (OpenSpec.ofChange livenessIsAboutWaysSpec)) livenessIsAboutWaysCard

/-- THE SECOND FORM's CARD OF 'spillframelaw16.LivenessIsAboutWays'. -/
def livenessIsAboutWaysUptoCard : Claim7 := { stood := { row := livenessIsAboutWaysUptoRow, standIns := [], harness := (true, "f2b5552e310d0e9587a8090142916332574b1034b5c9b6862270b8a1810fc78d"), looks := false }, kinds := [], alts := [], laidByText := true, laidKinds := [.data], laidTests := true, laidLooks := .later }
def LivenessIsAboutWaysUptoCardSaid : Prop := Claim7.holds Tryd.pinned (.plain (OpenSpec.upto livenessIsAboutWaysSpec)) livenessIsAboutWaysUptoCard
end Rows
end Go.Proofs.YtjjmcedpoolghaaDoor
