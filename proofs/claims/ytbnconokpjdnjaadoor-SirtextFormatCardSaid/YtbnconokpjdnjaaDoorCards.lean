/-
  DERIVED. GIVEN WITH THE SEED: THE CARDS: each row of YtbnconokpjdnjaaDoorRows.lean that lists a variable, with what it lists TIED to the program's text (the seventh form; the later family's looks); each row that meets fmt, with fmt's text TOLD by the authors' own Lean function (tested against real Go, not proved from fmt's source: count such statements apart). THE CARD IS WHAT COUNTS. Prove the row's statement (the work); the ties are given (YtbnconokpjdnjaaDoorTie.lean); close each card by the builder's one call (the guide's Derived/Test/ToyasCard.lean, 'card_holds'). Laid BY PROGRAM, IN A SANDBOX (cutbox-door.mjs). By AI agents, Wed Nov 11 2026. No macro, syntax, notation, axiom, sorry.
-/
import Derived.Test.YtbnconokpjdnjaaDoorRows
import GoSem.ClaimSeven
namespace Go.Proofs.YtbnconokpjdnjaaDoor
namespace Rows

/-- THE TIED CARD OF 'spillframelaw07.SirtextInstr'. -/
def sirtextInstrCard : Claim7 := { stood := { row := sirtextInstrRow, standIns := [], harness := (true, "496fd513cc92e4f2619c54e7a0f968b0fcd35b1bcb67b4aae29dcd44eacbd0db"), looks := true }, kinds := [], alts := [], laidByText := true, laidKinds := [.data, .data, .data, .data, .data], laidTests := true, laidLooks := .later }
def SirtextInstrCardSaid : Prop := Claim7.holds Tryd.pinned (.plain (OpenSpec.ofChange sirtextInstrSpec)) sirtextInstrCard

/-- THE TIED CARD OF 'spillframelaw07.SirtextFormat'. -/
def sirtextFormatCard : Claim7 := { stood := { row := sirtextFormatRow, standIns := [], harness := (true, "496fd513cc92e4f2619c54e7a0f968b0fcd35b1bcb67b4aae29dcd44eacbd0db"), looks := true }, kinds := [], alts := [], laidByText := true, laidKinds := [.data, .data, .data, .data, .data, .data], laidTests := true, laidLooks := .later }
def SirtextFormatCardSaid : Prop := Claim7.holds Tryd.pinned (.plain (OpenSpec.ofChange sirtextFormatSpec)) sirtextFormatCard

/-- THE TIED CARD OF 'spillframelaw33.ReportDisassembles'. -/
def reportDisassemblesCard : Claim7 := { stood := { row := reportDisassemblesRow, standIns := [], harness := (true, "496fd513cc92e4f2619c54e7a0f968b0fcd35b1bcb67b4aae29dcd44eacbd0db"), looks := true }, kinds := [], alts := [], laidByText := true, laidKinds := [.data, .data, .data, .data, .data], laidTests := true, laidLooks := .later }
def ReportDisassemblesCardSaid : Prop := Claim7.holds Tryd.pinned (.plain (OpenSpec.ofChange reportDisassemblesSpec)) reportDisassemblesCard

/-- THE SECOND FORM's CARD OF 'spillframelaw07.SirtextInstr'. -/
def sirtextInstrUptoCard : Claim7 := { stood := { row := sirtextInstrUptoRow, standIns := [], harness := (true, "496fd513cc92e4f2619c54e7a0f968b0fcd35b1bcb67b4aae29dcd44eacbd0db"), looks := true }, kinds := [], alts := [], laidByText := true, laidKinds := [.data, .data, .data, .data, .data], laidTests := true, laidLooks := .later }
def SirtextInstrUptoCardSaid : Prop := Claim7.holds Tryd.pinned (.plain (OpenSpec.upto sirtextInstrSpec)) sirtextInstrUptoCard

/-- THE SECOND FORM's CARD OF 'spillframelaw07.SirtextFormat'. -/
def sirtextFormatUptoCard : Claim7 := { stood := { row := sirtextFormatUptoRow, standIns := [], harness := (true, "496fd513cc92e4f2619c54e7a0f968b0fcd35b1bcb67b4aae29dcd44eacbd0db"), looks := true }, kinds := [], alts := [], laidByText := true, laidKinds := [.data, .data, .data, .data, .data, .data], laidTests := true, laidLooks := .later }
def SirtextFormatUptoCardSaid : Prop := Claim7.holds Tryd.pinned (.plain (OpenSpec.upto sirtextFormatSpec)) sirtextFormatUptoCard

/-- THE SECOND FORM's CARD OF 'spillframelaw33.ReportDisassembles'. -/
def reportDisassemblesUptoCard : Claim7 := { stood := { row := reportDisassemblesUptoRow, standIns := [], harness := (true, "496fd513cc92e4f2619c54e7a0f968b0fcd35b1bcb67b4aae29dcd44eacbd0db"), looks := true }, kinds := [], alts := [], laidByText := true, laidKinds := [.data, .data, .data, .data, .data], laidTests := true, laidLooks := .later }
def ReportDisassemblesUptoCardSaid : Prop := Claim7.holds Tryd.pinned (.plain (OpenSpec.upto reportDisassemblesSpec)) reportDisassemblesUptoCard
end Rows
end Go.Proofs.YtbnconokpjdnjaaDoor
