/-
  DERIVED. GIVEN WITH THE SEED: THE CARDS: each row of YtfpgidpffhmadaaDoorRows.lean that lists a variable, with what it lists TIED to the program's text (the seventh form; the later family's looks); each row that meets fmt, with fmt's text TOLD by the authors' own Lean function (tested against real Go, not proved from fmt's source: count such statements apart). THE CARD IS WHAT COUNTS. Prove the row's statement (the work); the ties are given (YtfpgidpffhmadaaDoorTie.lean); close each card by the builder's one call (the guide's Derived/Test/ToyasCard.lean, 'card_holds'). Laid BY PROGRAM, IN A SANDBOX (cutbox-door.mjs). By AI agents, Wed Nov 11 2026. No macro, syntax, notation, axiom, sorry.
-/
import Derived.Test.YtfpgidpffhmadaaDoorRows
import GoSem.ClaimSeven
namespace Go.Proofs.YtfpgidpffhmadaaDoor
namespace Rows

/-- THE TIED CARD OF 'spillframelaw22.ValidateRefusesOverwriting'. -/
def validateRefusesOverwritingCard : Claim7 := { stood := { row := validateRefusesOverwritingRow, standIns := [], harness := (true, "c2c4275b06a2a7463c618cd67b7aaa45a2f46c338033eab3d515d45135cb8091"), looks := false }, kinds := [], alts := [], laidByText := true, laidKinds := [.data], laidTests := true, laidLooks := .later }
def ValidateRefusesOverwritingCardSaid : Prop := Claim7.holds Tryd.pinned (.plain (OpenSpec.ofChange validateRefusesOverwritingSpec)) validateRefusesOverwritingCard

/-- THE TIED CARD OF 'spillframelaw18.InterfereIsMonotone'. -/
def interfereIsMonotoneCard : Claim7 := { stood := { row := interfereIsMonotoneRow, standIns := [], harness := (true, "c2c4275b06a2a7463c618cd67b7aaa45a2f46c338033eab3d515d45135cb8091"), looks := false }, kinds := [], alts := [], laidByText := true, laidKinds := [.data], laidTests := true, laidLooks := .later }
def InterfereIsMonotoneCardSaid : Prop := Claim7.holds Tryd.pinned (.plain (OpenSpec.ofChange interfereIsMonotoneSpec)) interfereIsMonotoneCard

/-- THE SECOND FORM's CARD OF 'spillframelaw22.ValidateRefusesOverwriting'. -/
def validateRefusesOverwritingUptoCard : Claim7 := { stood := { row := validateRefusesOverwritingUptoRow, standIns := [], harness := (true, "c2c4275b06a2a7463c618cd67b7aaa45a2f46c338033eab3d515d45135cb8091"), looks := false }, kinds := [], alts := [], laidByText := true, laidKinds := [.data], laidTests := true, laidLooks := .later }
def ValidateRefusesOverwritingUptoCardSaid : Prop := Claim7.holds Tryd.pinned (.plain (OpenSpec.upto validateRefusesOverwritingSpec)) validateRefusesOverwritingUptoCard

/-- THE SECOND FORM's CARD OF 'spillframelaw18.InterfereIsMonotone'. -/
def interfereIsMonotoneUptoCard : Claim7 := { stood := { row := interfereIsMonotoneUptoRow, standIns := [], harness := (true, "c2c4275b06a2a7463c618cd67b7aaa45a2f46c338033eab3d515d45135cb8091"), looks := false }, kinds := [], alts := [], laidByText := true, laidKinds := [.data], laidTests := true, laidLooks := .later }
def InterfereIsMonotoneUptoCardSaid : Prop := Claim7.holds Tryd.pinned (.plain (OpenSpec.upto interfereIsMonotoneSpec)) interfereIsMonotoneUptoCard
end Rows
end Go.Proofs.YtfpgidpffhmadaaDoor
