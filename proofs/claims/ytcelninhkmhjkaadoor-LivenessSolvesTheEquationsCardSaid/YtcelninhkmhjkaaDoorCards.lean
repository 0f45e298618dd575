/-
  DERIVED. GIVEN WITH THE SEED: THE CARDS: each row of YtcelninhkmhjkaaDoorRows.lean that lists a variable, with what it lists TIED to the program's text (the seventh form; the later family's looks); each row that meets fmt, with fmt's text TOLD by the authors' own Lean function (tested against real Go, not proved from fmt's source: count such statements apart). THE CARD IS WHAT COUNTS. Prove the row's statement (the work); the ties are given (YtcelninhkmhjkaaDoorTie.lean); close each card by the builder's one call (the guide's Derived/Test/ToyasCard.lean, 'card_holds'). Laid BY PROGRAM, IN A SANDBOX (cutbox-door.mjs). By AI agents, Wed Nov 11 2026. No macro, syntax, notation, axiom, sorry.
-/
import Derived.Test.YtcelninhkmhjkaaDoorRows
import GoSem.ClaimSeven
namespace Go.Proofs.YtcelninhkmhjkaaDoor
namespace Rows

/-- THE TIED CARD OF 'spillframelaw16.LivenessIsAboutWays'. -/
def livenessIsAboutWaysCard : Claim7 := { stood := { row := livenessIsAboutWaysRow, standIns := [], harness := (true, "bd224d1ccfbdd92d58138e2d4572cbb21b91b263ea346cbf3c44bf9ddcf63908"), looks := false }, kinds := [], alts := [], laidByText := true, laidKinds := [.data], laidTests := true, laidLooks := .later }
def LivenessIsAboutWaysCardSaid : Prop := Claim7.holds Tryd.pinned (.plain (OpenSpec.ofChange livenessIsAboutWaysSpec)) livenessIsAboutWaysCard

/-- THE TIED CARD OF 'spillframelaw17.LivecheckIsSound'. -/
def livecheckIsSoundCard : Claim7 := { stood := { row := livecheckIsSoundRow, standIns := [], harness := (true, "bd224d1ccfbdd92d58138e2d4572cbb21b91b263ea346cbf3c44bf9ddcf63908"), looks := false }, kinds := [], alts := [], laidByText := true, laidKinds := [.data], laidTests := true, laidLooks := .later }
def LivecheckIsSoundCardSaid : Prop := Claim7.holds Tryd.pinned (.plain (OpenSpec.ofChange livecheckIsSoundSpec)) livecheckIsSoundCard

/-- THE TIED CARD OF 'spillframelaw17.LivecheckIsALattice'. -/
def livecheckIsALatticeCard : Claim7 := { stood := { row := livecheckIsALatticeRow, standIns := [], harness := (true, "bd224d1ccfbdd92d58138e2d4572cbb21b91b263ea346cbf3c44bf9ddcf63908"), looks := false }, kinds := [], alts := [], laidByText := true, laidKinds := [.data], laidTests := true, laidLooks := .later }
def LivecheckIsALatticeCardSaid : Prop := Claim7.holds Tryd.pinned (.plain (OpenSpec.ofChange livecheckIsALatticeSpec)) livecheckIsALatticeCard

/-- THE TIED CARD OF 'spillframelaw17.LivecheckFindsWhatIsMissing'. -/
def livecheckFindsWhatIsMissingCard : Claim7 := { stood := { row := livecheckFindsWhatIsMissingRow, standIns := [], harness := (true, "bd224d1ccfbdd92d58138e2d4572cbb21b91b263ea346cbf3c44bf9ddcf63908"), looks := false }, kinds := [], alts := [], laidByText := true, laidKinds := [.data], laidTests := true, laidLooks := .later }
def LivecheckFindsWhatIsMissingCardSaid : Prop := Claim7.holds Tryd.pinned (.plain (OpenSpec.ofChange livecheckFindsWhatIsMissingSpec)) livecheckFindsWhatIsMissingCard

/-- THE TIED CARD OF 'spillframelaw16.LivenessSolvesTheEquations'. -/
def livenessSolvesTheEquationsCard : Claim7 := { stood := { row := livenessSolvesTheEquationsRow, standIns := [], harness := (true, "bd224d1ccfbdd92d58138e2d4572cbb21b91b263ea346cbf3c44bf9ddcf63908"), looks := false }, kinds := [], alts := [], laidByText := true, laidKinds := [.data], laidTests := true, laidLooks := .later }
def LivenessSolvesTheEquationsCardSaid : Prop := Claim7.holds Tryd.pinned (.plain (OpenSpec.ofChange livenessSolvesTheEquationsSpec)) livenessSolvesTheEquationsCard

/-- THE TIED CARD OF 'spillframelaw16.LivenessSolve'. -/
def livenessSolveCard : Claim7 := { stood := { row := livenessSolveRow, standIns := [], harness := (true, "bd224d1ccfbdd92d58138e2d4572cbb21b91b263ea346cbf3c44bf9ddcf63908"), looks := false }, kinds := [], alts := [], laidByText := true, laidKinds := [.data], laidTests := true, laidLooks := .later }
def LivenessSolveCardSaid : Prop := Claim7.holds Tryd.pinned (.plain (OpenSpec.ofChange livenessSolveSpec)) livenessSolveCard

/-- THE TIED CARD OF 'spillframelaw16.LivenessSame'. -/
def livenessSameCard : Claim7 := { stood := { row := livenessSameRow, standIns := [], harness := (true, "bd224d1ccfbdd92d58138e2d4572cbb21b91b263ea346cbf3c44bf9ddcf63908"), looks := false }, kinds := [], alts := [], laidByText := true, laidKinds := [.data], laidTests := true, laidLooks := .later }
def LivenessSameCardSaid : Prop := Claim7.holds Tryd.pinned (.plain (OpenSpec.ofChange livenessSameSpec)) livenessSameCard

/-- THE TIED CARD OF 'spillframelaw16.LivenessSteps'. -/
def livenessStepsCard : Claim7 := { stood := { row := livenessStepsRow, standIns := [], harness := (true, "bd224d1ccfbdd92d58138e2d4572cbb21b91b263ea346cbf3c44bf9ddcf63908"), looks := false }, kinds := [], alts := [], laidByText := true, laidKinds := [.data], laidTests := true, laidLooks := .later }
def LivenessStepsCardSaid : Prop := Claim7.holds Tryd.pinned (.plain (OpenSpec.ofChange livenessStepsSpec)) livenessStepsCard

/-- THE TIED CARD OF 'spillframelaw17.LivecheckCheck'. -/
def livecheckCheckCard : Claim7 := { stood := { row := livecheckCheckRow, standIns := [], harness := (true, "bd224d1ccfbdd92d58138e2d4572cbb21b91b263ea346cbf3c44bf9ddcf63908"), looks := false }, kinds := [], alts := [], laidByText := true, laidKinds := [.data], laidTests := true, laidLooks := .later }
def LivecheckCheckCardSaid : Prop := Claim7.holds Tryd.pinned (.plain (OpenSpec.ofChange livecheckCheckSpec)) livecheckCheckCard

/-- THE TIED CARD OF 'spillframelaw17.LivecheckAcceptsSolutions'. -/
def livecheckAcceptsSolutionsCard : Claim7 := { stood := { row := livecheckAcceptsSolutionsRow, standIns := [], harness := (true, "bd224d1ccfbdd92d58138e2d4572cbb21b91b263ea346cbf3c44bf9ddcf63908"), looks := false }, kinds := [], alts := [], laidByText := true, laidKinds := [.data], laidTests := true, laidLooks := .later }
def LivecheckAcceptsSolutionsCardSaid : Prop := Claim7.holds Tryd.pinned (.plain (OpenSpec.ofChange livecheckAcceptsSolutionsSpec)) livecheckAcceptsSolutionsCard

/-- THE TIED CARD OF 'spillframelaw18.InterfereGraph'. -/
def interfereGraphCard : Claim7 := { stood := { row := interfereGraphRow, standIns := [], harness := (true, "bd224d1ccfbdd92d58138e2d4572cbb21b91b263ea346cbf3c44bf9ddcf63908"), looks := false }, kinds := [], alts := [], laidByText := true, laidKinds := [.data], laidTests := true, laidLooks := .later }
def InterfereGraphCardSaid : Prop := Claim7.holds Tryd.pinned (.plain (OpenSpec.ofChange interfereGraphSpec)) interfereGraphCard

/-- THE TIED CARD OF 'spillframelaw18.InterfereStrictDiffersByMoves'. -/
def interfereStrictDiffersByMovesCard : Claim7 := { stood := { row := interfereStrictDiffersByMovesRow, standIns := [], harness := (true, "bd224d1ccfbdd92d58138e2d4572cbb21b91b263ea346cbf3c44bf9ddcf63908"), looks := false }, kinds := [], alts := [], laidByText := true, laidKinds := [.data], laidTests := true, laidLooks := .later }
def InterfereStrictDiffersByMovesCardSaid : Prop := Claim7.holds Tryd.pinned (.plain (OpenSpec.ofChange interfereStrictDiffersByMovesSpec)) interfereStrictDiffersByMovesCard

/-- THE SECOND FORM's CARD OF 'spillframelaw16.LivenessIsAboutWays'. -/
def livenessIsAboutWaysUptoCard : Claim7 := { stood := { row := livenessIsAboutWaysUptoRow, standIns := [], harness := (true, "bd224d1ccfbdd92d58138e2d4572cbb21b91b263ea346cbf3c44bf9ddcf63908"), looks := false }, kinds := [], alts := [], laidByText := true, laidKinds := [.data], laidTests := true, laidLooks := .later }
def LivenessIsAboutWaysUptoCardSaid : Prop := Claim7.holds Tryd.pinned (.plain (OpenSpec.upto livenessIsAboutWaysSpec)) livenessIsAboutWaysUptoCard

/-- THE SECOND FORM's CARD OF 'spillframelaw17.LivecheckIsSound'. -/
def livecheckIsSoundUptoCard : Claim7 := { stood := { row := livecheckIsSoundUptoRow, standIns := [], harness := (true, "bd224d1ccfbdd92d58138e2d4572cbb21b91b263ea346cbf3c44bf9ddcf63908"), looks := false }, kinds := [], alts := [], laidByText := true, laidKinds := [.data], laidTests := true, laidLooks := .later }
def LivecheckIsSoundUptoCardSaid : Prop := Claim7.holds Tryd.pinned (.plain (OpenSpec.upto livecheckIsSoundSpec)) livecheckIsSoundUptoCard

/-- THE SECOND FORM's CARD OF 'spillframelaw17.LivecheckIsALattice'. -/
def livecheckIsALatticeUptoCard : Claim7 := { stood := { row := livecheckIsALatticeUptoRow, standIns := [], harness := (true, "bd224d1ccfbdd92d58138e2d4572cbb21b91b263ea346cbf3c44bf9ddcf63908"), looks := false }, kinds := [], alts := [], laidByText := true, laidKinds := [.data], laidTests := true, laidLooks := .later }
def LivecheckIsALatticeUptoCardSaid : Prop := Claim7.holds Tryd.pinned (.plain (OpenSpec.upto livecheckIsALatticeSpec)) livecheckIsALatticeUptoCard

/-- THE SECOND FORM's CARD OF 'spillframelaw17.LivecheckFindsWhatIsMissing'. -/
def livecheckFindsWhatIsMissingUptoCard : Claim7 := { stood := { row := livecheckFindsWhatIsMissingUptoRow, standIns := [], harness := (true, "bd224d1ccfbdd92d58138e2d4572cbb21b91b263ea346cbf3c44bf9ddcf63908"), looks := false }, kinds := [], alts := [], laidByText := true, laidKinds := [.data], laidTests := true, laidLooks := .later }
def LivecheckFindsWhatIsMissingUptoCardSaid : Prop := Claim7.holds Tryd.pinned (.plain (OpenSpec.upto livecheckFindsWhatIsMissingSpec)) livecheckFindsWhatIsMissingUptoCard

/-- THE SECOND FORM's CARD OF 'spillframelaw16.LivenessSolvesTheEquations'. -/
def livenessSolvesTheEquationsUptoCard : Claim7 := { stood := { row := livenessSolvesTheEquationsUptoRow, standIns := [], harness := (true, "bd224d1ccfbdd92d58138e2d4572cbb21b91b263ea346cbf3c44bf9ddcf63908"), looks := false }, kinds := [], alts := [], laidByText := true, laidKinds := [.data], laidTests := true, laidLooks := .later }
def LivenessSolvesTheEquationsUptoCardSaid : Prop := Claim7.holds Tryd.pinned (.plain (OpenSpec.upto livenessSolvesTheEquationsSpec)) livenessSolvesTheEquationsUptoCard

/-- THE SECOND FORM's CARD OF 'spillframelaw16.LivenessSolve'. -/
def livenessSolveUptoCard : Claim7 := { stood := { row := livenessSolveUptoRow, standIns := [], harness := (true, "bd224d1ccfbdd92d58138e2d4572cbb21b91b263ea346cbf3c44bf9ddcf63908"), looks := false }, kinds := [], alts := [], laidByText := true, laidKinds := [.data], laidTests := true, laidLooks := .later }
def LivenessSolveUptoCardSaid : Prop := Claim7.holds Tryd.pinned (.plain (OpenSpec.upto livenessSolveSpec)) livenessSolveUptoCard

/-- THE SECOND FORM's CARD OF 'spillframelaw16.LivenessSame'. -/
def livenessSameUptoCard : Claim7 := { stood := { row := livenessSameUptoRow, standIns := [], harness := (true, "bd224d1ccfbdd92d58138e2d4572cbb21b91b263ea346cbf3c44bf9ddcf63908"), looks := false }, kinds := [], alts := [], laidByText := true, laidKinds := [.data], laidTests := true, laidLooks := .later }
def LivenessSameUptoCardSaid : Prop := Claim7.holds Tryd.pinned (.plain (OpenSpec.upto livenessSameSpec)) livenessSameUptoCard

/-- THE SECOND FORM's CARD OF 'spillframelaw16.LivenessSteps'. -/
def livenessStepsUptoCard : Claim7 := { stood := { row := livenessStepsUptoRow, standIns := [], harness := (true, "bd224d1ccfbdd92d58138e2d4572cbb21b91b263ea346cbf3c44bf9ddcf63908"), looks := false }, kinds := [], alts := [], laidByText := true, laidKinds := [.data], laidTests := true, laidLooks := .later }
def LivenessStepsUptoCardSaid : Prop := Claim7.holds Tryd.pinned (.plain (OpenSpec.upto livenessStepsSpec)) livenessStepsUptoCard

/-- THE SECOND FORM's CARD OF 'spillframelaw17.LivecheckCheck'. -/
def livecheckCheckUptoCard : Claim7 := { stood := { row := livecheckCheckUptoRow, standIns := [], harness := (true, "bd224d1ccfbdd92d58138e2d4572cbb21b91b263ea346cbf3c44bf9ddcf63908"), looks := false }, kinds := [], alts := [], laidByText := true, laidKinds := [.data], laidTests := true, laidLooks := .later }
def LivecheckCheckUptoCardSaid : Prop := Claim7.holds Tryd.pinned (.plain (OpenSpec.upto livecheckCheckSpec)) livecheckCheckUptoCard

/-- THE SECOND FORM's CARD OF 'spillframelaw17.LivecheckAcceptsSolutions'. -/
def livecheckAcceptsSolutionsUptoCard : Claim7 := { stood := { row := livecheckAcceptsSolutionsUptoRow, standIns := [], harness := (true, "bd224d1ccfbdd92d58138e2d4572cbb21b91b263ea346cbf3c44bf9ddcf63908"), looks := false }, kinds := [], alts := [], laidByText := true, laidKinds := [.data], laidTests := true, laidLooks := .later }
def LivecheckAcceptsSolutionsUptoCardSaid : Prop := Claim7.holds Tryd.pinned (.plain (OpenSpec.upto livecheckAcceptsSolutionsSpec)) livecheckAcceptsSolutionsUptoCard

/-- THE SECOND FORM's CARD OF 'spillframelaw18.InterfereGraph'. -/
def interfereGraphUptoCard : Claim7 := { stood := { row := interfereGraphUptoRow, standIns := [], harness := (true, "bd224d1ccfbdd92d58138e2d4572cbb21b91b263ea346cbf3c44bf9ddcf63908"), looks := false }, kinds := [], alts := [], laidByText := true, laidKinds := [.data], laidTests := true, laidLooks := .later }
def InterfereGraphUptoCardSaid : Prop := Claim7.holds Tryd.pinned (.plain (OpenSpec.upto interfereGraphSpec)) interfereGraphUptoCard

/-- THE SECOND FORM's CARD OF 'spillframelaw18.InterfereStrictDiffersByMoves'. -/
def interfereStrictDiffersByMovesUptoCard : Claim7 := { stood := { row := interfereStrictDiffersByMovesUptoRow, standIns := [], harness := (true, "bd224d1ccfbdd92d58138e2d4572cbb21b91b263ea346cbf3c44bf9ddcf63908"), looks := false }, kinds := [], alts := [], laidByText := true, laidKinds := [.data], laidTests := true, laidLooks := .later }
def InterfereStrictDiffersByMovesUptoCardSaid : Prop := Claim7.holds Tryd.pinned (.plain (OpenSpec.upto interfereStrictDiffersByMovesSpec)) interfereStrictDiffersByMovesUptoCard
end Rows
end Go.Proofs.YtcelninhkmhjkaaDoor
