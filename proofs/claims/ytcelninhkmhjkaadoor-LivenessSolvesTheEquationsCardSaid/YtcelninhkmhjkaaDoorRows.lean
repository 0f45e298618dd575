/-
  NARROWER THAN 'FOR EVERY INPUT', by the rows' own cells (each row's printed sentence says how): LivenessIsAboutWays: laid · LivecheckIsSound: laid · LivecheckIsALattice: laid · LivecheckFindsWhatIsMissing: laid · LivenessSolvesTheEquations: laid · LivenessSolve: laid · LivenessSame: laid · LivenessSteps: laid · LivecheckCheck: laid · LivecheckAcceptsSolutions: laid · InterfereGraph: laid · InterfereStrictDiffersByMoves: laid.
  DERIVED. THE GIVEN ROWS OF THIS SEAT. 12 by the template 'for every input the law returns true; each argument reads behind the call as it read before'; 0 by the template 'total and deterministic' (their statements: YtcelninhkmhjkaaDoorTotals.lean).
  GIVEN WITH THE SEED: the statements are not yours to turn. If you find one false, say at which input.
  Laid BY PROGRAM, IN A SANDBOX (cutbox-rows.mjs): the forced cells as the released guide's own fill.sh prints them over the translation 25c5e362e0755fa2… (all of the seat's roots in one cut). By AI agents, Wed Nov 11 2026. No macro, syntax, notation, axiom, sorry.
-/
import Derived.Test.YtcelninhkmhjkaaDoorChecked
import GoSem.Claim
import GoSem.ClaimJoined
import GoSem.ClaimMapViews
import Derived.JoinedTies
import Derived.KernelRfl
namespace Go.Proofs.YtcelninhkmhjkaaDoor
/- THE CELL 'sum', in the pinned program and in every row, IS THE sha256 OF THE DUMP (.gsa) THAT YtcelninhkmhjkaaDoorProg.lean LOADS. Nothing in Lean hashes anything: it is a label: what it is worth is what the hold of that sum in a sandbox is worth. -/
noncomputable def Tryd.pinned : Pinned := { name := "ytcelninhkmhjkaadoor", sum := "25c5e362e0755fa27a3fc5b86896ffad3184ffb86b2a3a8081da903cf8808047", checked := Tryd.checked }
namespace Rows
def none {H : Type} : Left H := { results := [], args := [] }

/- WHAT THE LISTED PACKAGE-LEVEL VARIABLES READ AS WHEN THE CALL BEGINS. Each datum BY PROGRAM (the guide's laid-datum.mjs) off the statement by which the dump's own 'gosem.cut.vars' lays the variable. In a bare row this is a premise. The card (YtcelninhkmhjkaaDoorCards.lean) ties it to the program's text. -/
def laid_math_bits_deBruijn64tab {H : Type} : DataW H := .agg [.lit (.int .u8 0), .lit (.int .u8 1), .lit (.int .u8 56), .lit (.int .u8 2), .lit (.int .u8 57), .lit (.int .u8 49), .lit (.int .u8 28), .lit (.int .u8 3), .lit (.int .u8 61), .lit (.int .u8 58), .lit (.int .u8 42), .lit (.int .u8 50), .lit (.int .u8 38), .lit (.int .u8 29), .lit (.int .u8 17), .lit (.int .u8 4), .lit (.int .u8 62), .lit (.int .u8 47), .lit (.int .u8 59), .lit (.int .u8 36), .lit (.int .u8 45), .lit (.int .u8 43), .lit (.int .u8 51), .lit (.int .u8 22), .lit (.int .u8 53), .lit (.int .u8 39), .lit (.int .u8 33), .lit (.int .u8 30), .lit (.int .u8 24), .lit (.int .u8 18), .lit (.int .u8 12), .lit (.int .u8 5), .lit (.int .u8 63), .lit (.int .u8 55), .lit (.int .u8 48), .lit (.int .u8 27), .lit (.int .u8 60), .lit (.int .u8 41), .lit (.int .u8 37), .lit (.int .u8 16), .lit (.int .u8 46), .lit (.int .u8 35), .lit (.int .u8 44), .lit (.int .u8 21), .lit (.int .u8 52), .lit (.int .u8 32), .lit (.int .u8 23), .lit (.int .u8 11), .lit (.int .u8 54), .lit (.int .u8 26), .lit (.int .u8 40), .lit (.int .u8 15), .lit (.int .u8 34), .lit (.int .u8 20), .lit (.int .u8 31), .lit (.int .u8 10), .lit (.int .u8 25), .lit (.int .u8 14), .lit (.int .u8 19), .lit (.int .u8 9), .lit (.int .u8 13), .lit (.int .u8 8), .lit (.int .u8 7), .lit (.int .u8 6)]

/-- 'spillframelaw16.LivenessIsAboutWays': WHATEVER THE INPUT: true; the input reads as it did. -/
def livenessIsAboutWaysSpec : ChangeSpec := { name := "livenessIsAboutWays", fn := fun _ => fun
  | [d] => { results := [.lit (.bool true)], args := [d] }
  | _ => none }
def livenessIsAboutWaysRow : OpenClaim := { program := "ytcelninhkmhjkaadoor", sum := "25c5e362e0755fa27a3fc5b86896ffad3184ffb86b2a3a8081da903cf8808047", func := "spillframe/spillframelaw16.LivenessIsAboutWays", spec := "livenessIsAboutWays", unfollowed := true, recurses := true, named := ["math/bits.deBruijn64tab"], apart := false, laid := [("math/bits.deBruijn64tab", laid_math_bits_deBruijn64tab)] }
def LivenessIsAboutWaysSaid : Prop := livenessIsAboutWaysRow.holds Tryd.pinned (OpenSpec.ofChange livenessIsAboutWaysSpec)

/-- ITS FALSE NEIGHBOUR: 'it returns false'. Refute it at one input. -/
def livenessIsAboutWaysWrong : ChangeSpec := { name := "livenessIsAboutWays", fn := fun _ => fun
  | [d] => { results := [.lit (.bool false)], args := [d] }
  | _ => none }
def LivenessIsAboutWaysWrongFalsely : Prop := livenessIsAboutWaysRow.holds Tryd.pinned (OpenSpec.ofChange livenessIsAboutWaysWrong)

/-- 'spillframelaw17.LivecheckIsSound': WHATEVER THE INPUT: true; the input reads as it did. -/
def livecheckIsSoundSpec : ChangeSpec := { name := "livecheckIsSound", fn := fun _ => fun
  | [d] => { results := [.lit (.bool true)], args := [d] }
  | _ => none }
def livecheckIsSoundRow : OpenClaim := { program := "ytcelninhkmhjkaadoor", sum := "25c5e362e0755fa27a3fc5b86896ffad3184ffb86b2a3a8081da903cf8808047", func := "spillframe/spillframelaw17.LivecheckIsSound", spec := "livecheckIsSound", unfollowed := true, recurses := true, named := ["math/bits.deBruijn64tab"], apart := false, laid := [("math/bits.deBruijn64tab", laid_math_bits_deBruijn64tab)] }
def LivecheckIsSoundSaid : Prop := livecheckIsSoundRow.holds Tryd.pinned (OpenSpec.ofChange livecheckIsSoundSpec)

/-- ITS FALSE NEIGHBOUR: 'it returns false'. Refute it at one input. -/
def livecheckIsSoundWrong : ChangeSpec := { name := "livecheckIsSound", fn := fun _ => fun
  | [d] => { results := [.lit (.bool false)], args := [d] }
  | _ => none }
def LivecheckIsSoundWrongFalsely : Prop := livecheckIsSoundRow.holds Tryd.pinned (OpenSpec.ofChange livecheckIsSoundWrong)

/-- 'spillframelaw17.LivecheckIsALattice': WHATEVER THE INPUT: true; the input reads as it did. -/
def livecheckIsALatticeSpec : ChangeSpec := { name := "livecheckIsALattice", fn := fun _ => fun
  | [d] => { results := [.lit (.bool true)], args := [d] }
  | _ => none }
def livecheckIsALatticeRow : OpenClaim := { program := "ytcelninhkmhjkaadoor", sum := "25c5e362e0755fa27a3fc5b86896ffad3184ffb86b2a3a8081da903cf8808047", func := "spillframe/spillframelaw17.LivecheckIsALattice", spec := "livecheckIsALattice", unfollowed := true, recurses := true, named := ["math/bits.deBruijn64tab"], apart := false, laid := [("math/bits.deBruijn64tab", laid_math_bits_deBruijn64tab)] }
def LivecheckIsALatticeSaid : Prop := livecheckIsALatticeRow.holds Tryd.pinned (OpenSpec.ofChange livecheckIsALatticeSpec)

/-- ITS FALSE NEIGHBOUR: 'it returns false'. Refute it at one input. -/
def livecheckIsALatticeWrong : ChangeSpec := { name := "livecheckIsALattice", fn := fun _ => fun
  | [d] => { results := [.lit (.bool false)], args := [d] }
  | _ => none }
def LivecheckIsALatticeWrongFalsely : Prop := livecheckIsALatticeRow.holds Tryd.pinned (OpenSpec.ofChange livecheckIsALatticeWrong)

/-- 'spillframelaw17.LivecheckFindsWhatIsMissing': WHATEVER THE INPUT: true; the input reads as it did. -/
def livecheckFindsWhatIsMissingSpec : ChangeSpec := { name := "livecheckFindsWhatIsMissing", fn := fun _ => fun
  | [d1, d2] => { results := [.lit (.bool true)], args := [d1, d2] }
  | _ => none }
def livecheckFindsWhatIsMissingRow : OpenClaim := { program := "ytcelninhkmhjkaadoor", sum := "25c5e362e0755fa27a3fc5b86896ffad3184ffb86b2a3a8081da903cf8808047", func := "spillframe/spillframelaw17.LivecheckFindsWhatIsMissing", spec := "livecheckFindsWhatIsMissing", unfollowed := true, recurses := true, named := ["math/bits.deBruijn64tab"], apart := false, laid := [("math/bits.deBruijn64tab", laid_math_bits_deBruijn64tab)] }
def LivecheckFindsWhatIsMissingSaid : Prop := livecheckFindsWhatIsMissingRow.holds Tryd.pinned (OpenSpec.ofChange livecheckFindsWhatIsMissingSpec)

/-- ITS FALSE NEIGHBOUR: 'it returns false'. Refute it at one input. -/
def livecheckFindsWhatIsMissingWrong : ChangeSpec := { name := "livecheckFindsWhatIsMissing", fn := fun _ => fun
  | [d1, d2] => { results := [.lit (.bool false)], args := [d1, d2] }
  | _ => none }
def LivecheckFindsWhatIsMissingWrongFalsely : Prop := livecheckFindsWhatIsMissingRow.holds Tryd.pinned (OpenSpec.ofChange livecheckFindsWhatIsMissingWrong)

/-- 'spillframelaw16.LivenessSolvesTheEquations': WHATEVER THE INPUT: true; the input reads as it did. -/
def livenessSolvesTheEquationsSpec : ChangeSpec := { name := "livenessSolvesTheEquations", fn := fun _ => fun
  | [d] => { results := [.lit (.bool true)], args := [d] }
  | _ => none }
def livenessSolvesTheEquationsRow : OpenClaim := { program := "ytcelninhkmhjkaadoor", sum := "25c5e362e0755fa27a3fc5b86896ffad3184ffb86b2a3a8081da903cf8808047", func := "spillframe/spillframelaw16.LivenessSolvesTheEquations", spec := "livenessSolvesTheEquations", unfollowed := true, recurses := true, named := ["math/bits.deBruijn64tab"], apart := false, laid := [("math/bits.deBruijn64tab", laid_math_bits_deBruijn64tab)] }
def LivenessSolvesTheEquationsSaid : Prop := livenessSolvesTheEquationsRow.holds Tryd.pinned (OpenSpec.ofChange livenessSolvesTheEquationsSpec)

/-- ITS FALSE NEIGHBOUR: 'it returns false'. Refute it at one input. -/
def livenessSolvesTheEquationsWrong : ChangeSpec := { name := "livenessSolvesTheEquations", fn := fun _ => fun
  | [d] => { results := [.lit (.bool false)], args := [d] }
  | _ => none }
def LivenessSolvesTheEquationsWrongFalsely : Prop := livenessSolvesTheEquationsRow.holds Tryd.pinned (OpenSpec.ofChange livenessSolvesTheEquationsWrong)

/-- 'spillframelaw16.LivenessSolve': WHATEVER THE INPUT: true; the input reads as it did. -/
def livenessSolveSpec : ChangeSpec := { name := "livenessSolve", fn := fun _ => fun
  | [d] => { results := [.lit (.bool true)], args := [d] }
  | _ => none }
def livenessSolveRow : OpenClaim := { program := "ytcelninhkmhjkaadoor", sum := "25c5e362e0755fa27a3fc5b86896ffad3184ffb86b2a3a8081da903cf8808047", func := "spillframe/spillframelaw16.LivenessSolve", spec := "livenessSolve", unfollowed := true, recurses := true, named := ["math/bits.deBruijn64tab"], apart := false, laid := [("math/bits.deBruijn64tab", laid_math_bits_deBruijn64tab)] }
def LivenessSolveSaid : Prop := livenessSolveRow.holds Tryd.pinned (OpenSpec.ofChange livenessSolveSpec)

/-- ITS FALSE NEIGHBOUR: 'it returns false'. Refute it at one input. -/
def livenessSolveWrong : ChangeSpec := { name := "livenessSolve", fn := fun _ => fun
  | [d] => { results := [.lit (.bool false)], args := [d] }
  | _ => none }
def LivenessSolveWrongFalsely : Prop := livenessSolveRow.holds Tryd.pinned (OpenSpec.ofChange livenessSolveWrong)

/-- 'spillframelaw16.LivenessSame': WHATEVER THE INPUT: true; the input reads as it did. -/
def livenessSameSpec : ChangeSpec := { name := "livenessSame", fn := fun _ => fun
  | [d1, d2, d3] => { results := [.lit (.bool true)], args := [d1, d2, d3] }
  | _ => none }
def livenessSameRow : OpenClaim := { program := "ytcelninhkmhjkaadoor", sum := "25c5e362e0755fa27a3fc5b86896ffad3184ffb86b2a3a8081da903cf8808047", func := "spillframe/spillframelaw16.LivenessSame", spec := "livenessSame", unfollowed := true, recurses := true, named := ["math/bits.deBruijn64tab"], apart := false, laid := [("math/bits.deBruijn64tab", laid_math_bits_deBruijn64tab)] }
def LivenessSameSaid : Prop := livenessSameRow.holds Tryd.pinned (OpenSpec.ofChange livenessSameSpec)

/-- ITS FALSE NEIGHBOUR: 'it returns false'. Refute it at one input. -/
def livenessSameWrong : ChangeSpec := { name := "livenessSame", fn := fun _ => fun
  | [d1, d2, d3] => { results := [.lit (.bool false)], args := [d1, d2, d3] }
  | _ => none }
def LivenessSameWrongFalsely : Prop := livenessSameRow.holds Tryd.pinned (OpenSpec.ofChange livenessSameWrong)

/-- 'spillframelaw16.LivenessSteps': WHATEVER THE INPUT: true; the input reads as it did. -/
def livenessStepsSpec : ChangeSpec := { name := "livenessSteps", fn := fun _ => fun
  | [d] => { results := [.lit (.bool true)], args := [d] }
  | _ => none }
def livenessStepsRow : OpenClaim := { program := "ytcelninhkmhjkaadoor", sum := "25c5e362e0755fa27a3fc5b86896ffad3184ffb86b2a3a8081da903cf8808047", func := "spillframe/spillframelaw16.LivenessSteps", spec := "livenessSteps", unfollowed := true, recurses := true, named := ["math/bits.deBruijn64tab"], apart := false, laid := [("math/bits.deBruijn64tab", laid_math_bits_deBruijn64tab)] }
def LivenessStepsSaid : Prop := livenessStepsRow.holds Tryd.pinned (OpenSpec.ofChange livenessStepsSpec)

/-- ITS FALSE NEIGHBOUR: 'it returns false'. Refute it at one input. -/
def livenessStepsWrong : ChangeSpec := { name := "livenessSteps", fn := fun _ => fun
  | [d] => { results := [.lit (.bool false)], args := [d] }
  | _ => none }
def LivenessStepsWrongFalsely : Prop := livenessStepsRow.holds Tryd.pinned (OpenSpec.ofChange livenessStepsWrong)

/-- 'spillframelaw17.LivecheckCheck': WHATEVER THE INPUT: true; the input reads as it did. -/
def livecheckCheckSpec : ChangeSpec := { name := "livecheckCheck", fn := fun _ => fun
  | [d1, d2] => { results := [.lit (.bool true)], args := [d1, d2] }
  | _ => none }
def livecheckCheckRow : OpenClaim := { program := "ytcelninhkmhjkaadoor", sum := "25c5e362e0755fa27a3fc5b86896ffad3184ffb86b2a3a8081da903cf8808047", func := "spillframe/spillframelaw17.LivecheckCheck", spec := "livecheckCheck", unfollowed := true, recurses := true, named := ["math/bits.deBruijn64tab"], apart := false, laid := [("math/bits.deBruijn64tab", laid_math_bits_deBruijn64tab)] }
def LivecheckCheckSaid : Prop := livecheckCheckRow.holds Tryd.pinned (OpenSpec.ofChange livecheckCheckSpec)

/-- ITS FALSE NEIGHBOUR: 'it returns false'. Refute it at one input. -/
def livecheckCheckWrong : ChangeSpec := { name := "livecheckCheck", fn := fun _ => fun
  | [d1, d2] => { results := [.lit (.bool false)], args := [d1, d2] }
  | _ => none }
def LivecheckCheckWrongFalsely : Prop := livecheckCheckRow.holds Tryd.pinned (OpenSpec.ofChange livecheckCheckWrong)

/-- 'spillframelaw17.LivecheckAcceptsSolutions': WHATEVER THE INPUT: true; the input reads as it did. -/
def livecheckAcceptsSolutionsSpec : ChangeSpec := { name := "livecheckAcceptsSolutions", fn := fun _ => fun
  | [d1, d2] => { results := [.lit (.bool true)], args := [d1, d2] }
  | _ => none }
def livecheckAcceptsSolutionsRow : OpenClaim := { program := "ytcelninhkmhjkaadoor", sum := "25c5e362e0755fa27a3fc5b86896ffad3184ffb86b2a3a8081da903cf8808047", func := "spillframe/spillframelaw17.LivecheckAcceptsSolutions", spec := "livecheckAcceptsSolutions", unfollowed := true, recurses := true, named := ["math/bits.deBruijn64tab"], apart := false, laid := [("math/bits.deBruijn64tab", laid_math_bits_deBruijn64tab)] }
def LivecheckAcceptsSolutionsSaid : Prop := livecheckAcceptsSolutionsRow.holds Tryd.pinned (OpenSpec.ofChange livecheckAcceptsSolutionsSpec)

/-- ITS FALSE NEIGHBOUR: 'it returns false'. Refute it at one input. -/
def livecheckAcceptsSolutionsWrong : ChangeSpec := { name := "livecheckAcceptsSolutions", fn := fun _ => fun
  | [d1, d2] => { results := [.lit (.bool false)], args := [d1, d2] }
  | _ => none }
def LivecheckAcceptsSolutionsWrongFalsely : Prop := livecheckAcceptsSolutionsRow.holds Tryd.pinned (OpenSpec.ofChange livecheckAcceptsSolutionsWrong)

/-- 'spillframelaw18.InterfereGraph': WHATEVER THE INPUT: true; the input reads as it did. -/
def interfereGraphSpec : ChangeSpec := { name := "interfereGraph", fn := fun _ => fun
  | [d1, d2] => { results := [.lit (.bool true)], args := [d1, d2] }
  | _ => none }
def interfereGraphRow : OpenClaim := { program := "ytcelninhkmhjkaadoor", sum := "25c5e362e0755fa27a3fc5b86896ffad3184ffb86b2a3a8081da903cf8808047", func := "spillframe/spillframelaw18.InterfereGraph", spec := "interfereGraph", unfollowed := true, recurses := true, named := ["math/bits.deBruijn64tab"], apart := false, laid := [("math/bits.deBruijn64tab", laid_math_bits_deBruijn64tab)] }
def InterfereGraphSaid : Prop := interfereGraphRow.holds Tryd.pinned (OpenSpec.ofChange interfereGraphSpec)

/-- ITS FALSE NEIGHBOUR: 'it returns false'. Refute it at one input. -/
def interfereGraphWrong : ChangeSpec := { name := "interfereGraph", fn := fun _ => fun
  | [d1, d2] => { results := [.lit (.bool false)], args := [d1, d2] }
  | _ => none }
def InterfereGraphWrongFalsely : Prop := interfereGraphRow.holds Tryd.pinned (OpenSpec.ofChange interfereGraphWrong)

/-- 'spillframelaw18.InterfereStrictDiffersByMoves': WHATEVER THE INPUT: true; the input reads as it did. -/
def interfereStrictDiffersByMovesSpec : ChangeSpec := { name := "interfereStrictDiffersByMoves", fn := fun _ => fun
  | [d] => { results := [.lit (.bool true)], args := [d] }
  | _ => none }
def interfereStrictDiffersByMovesRow : OpenClaim := { program := "ytcelninhkmhjkaadoor", sum := "25c5e362e0755fa27a3fc5b86896ffad3184ffb86b2a3a8081da903cf8808047", func := "spillframe/spillframelaw18.InterfereStrictDiffersByMoves", spec := "interfereStrictDiffersByMoves", unfollowed := true, recurses := true, named := ["math/bits.deBruijn64tab"], apart := false, laid := [("math/bits.deBruijn64tab", laid_math_bits_deBruijn64tab)] }
def InterfereStrictDiffersByMovesSaid : Prop := interfereStrictDiffersByMovesRow.holds Tryd.pinned (OpenSpec.ofChange interfereStrictDiffersByMovesSpec)

/-- ITS FALSE NEIGHBOUR: 'it returns false'. Refute it at one input. -/
def interfereStrictDiffersByMovesWrong : ChangeSpec := { name := "interfereStrictDiffersByMoves", fn := fun _ => fun
  | [d] => { results := [.lit (.bool false)], args := [d] }
  | _ => none }
def InterfereStrictDiffersByMovesWrongFalsely : Prop := interfereStrictDiffersByMovesRow.holds Tryd.pinned (OpenSpec.ofChange interfereStrictDiffersByMovesWrong)

/- THE SECOND FORM. 'bulk': how many values and letters a reading holds, each counted each time it is reached (what is shared counts as often as it is met; a slice's spare places count too). A statement '..UptoSaid' is the law's where the arguments, and the package variables that the reading takes, are together of bulk at most 1048576: NARROWER than '..Said'. Prove '..Said' where nothing that the law and all that it calls make is longer than what came in: it says more and counts as full. Else prove '..UptoSaid'. A law counts once. -/
mutual
def uptoBulk {H : Type} : DataW H → Nat
  | .lit (.string bytes) => bytes.length + 1
  | .lit _ => 1
  | .nil => 1
  | .ptr d => uptoBulk d + 1
  | .slice elems spare => uptoBulkAll elems + uptoBulkAll spare + 1
  | .agg parts => uptoBulkAll parts + 1
  | .iface _ d => uptoBulk d + 1
  | .map entries => uptoBulkEntries entries + 1
  | .held _ => 1
def uptoBulkAll {H : Type} : List (DataW H) → Nat
  | [] => 0
  | d :: r => uptoBulk d + uptoBulkAll r
def uptoBulkEntries {H : Type} : List (Lit × DataW H) → Nat
  | [] => 0
  | x :: r => uptoBulkEntry x + uptoBulkEntries r
def uptoBulkEntry {H : Type} : Lit × DataW H → Nat
  | (.string bytes, d) => bytes.length + uptoBulk d + 1
  | (_, d) => uptoBulk d + 1
 end
def uptoSmall : (H : Type) → List (DataW H) → Bool := fun _ ds => decide (uptoBulkAll ds ≤ 1048576)
def OpenSpec.upto (s : _root_.Go.ChangeSpec) : _root_.Go.OpenSpec := { _root_.Go.OpenSpec.ofChange s with cond := some uptoSmall }

/-- 'spillframelaw16.LivenessIsAboutWays', WHERE WHAT IT READS IS OF BULK AT MOST 1048576: true; the input reads as it did. -/
def livenessIsAboutWaysUptoRow : OpenClaim := { program := "ytcelninhkmhjkaadoor", sum := "25c5e362e0755fa27a3fc5b86896ffad3184ffb86b2a3a8081da903cf8808047", func := "spillframe/spillframelaw16.LivenessIsAboutWays", spec := "livenessIsAboutWays", unfollowed := true, recurses := true, named := ["math/bits.deBruijn64tab"], apart := false, laid := [("math/bits.deBruijn64tab", laid_math_bits_deBruijn64tab)], narrowed := true }
def LivenessIsAboutWaysUptoSaid : Prop := livenessIsAboutWaysUptoRow.holds Tryd.pinned (OpenSpec.upto livenessIsAboutWaysSpec)

/-- 'spillframelaw17.LivecheckIsSound', WHERE WHAT IT READS IS OF BULK AT MOST 1048576: true; the input reads as it did. -/
def livecheckIsSoundUptoRow : OpenClaim := { program := "ytcelninhkmhjkaadoor", sum := "25c5e362e0755fa27a3fc5b86896ffad3184ffb86b2a3a8081da903cf8808047", func := "spillframe/spillframelaw17.LivecheckIsSound", spec := "livecheckIsSound", unfollowed := true, recurses := true, named := ["math/bits.deBruijn64tab"], apart := false, laid := [("math/bits.deBruijn64tab", laid_math_bits_deBruijn64tab)], narrowed := true }
def LivecheckIsSoundUptoSaid : Prop := livecheckIsSoundUptoRow.holds Tryd.pinned (OpenSpec.upto livecheckIsSoundSpec)

/-- 'spillframelaw17.LivecheckIsALattice', WHERE WHAT IT READS IS OF BULK AT MOST 1048576: true; the input reads as it did. -/
def livecheckIsALatticeUptoRow : OpenClaim := { program := "ytcelninhkmhjkaadoor", sum := "25c5e362e0755fa27a3fc5b86896ffad3184ffb86b2a3a8081da903cf8808047", func := "spillframe/spillframelaw17.LivecheckIsALattice", spec := "livecheckIsALattice", unfollowed := true, recurses := true, named := ["math/bits.deBruijn64tab"], apart := false, laid := [("math/bits.deBruijn64tab", laid_math_bits_deBruijn64tab)], narrowed := true }
def LivecheckIsALatticeUptoSaid : Prop := livecheckIsALatticeUptoRow.holds Tryd.pinned (OpenSpec.upto livecheckIsALatticeSpec)

/-- 'spillframelaw17.LivecheckFindsWhatIsMissing', WHERE WHAT IT READS IS OF BULK AT MOST 1048576: true; the input reads as it did. -/
def livecheckFindsWhatIsMissingUptoRow : OpenClaim := { program := "ytcelninhkmhjkaadoor", sum := "25c5e362e0755fa27a3fc5b86896ffad3184ffb86b2a3a8081da903cf8808047", func := "spillframe/spillframelaw17.LivecheckFindsWhatIsMissing", spec := "livecheckFindsWhatIsMissing", unfollowed := true, recurses := true, named := ["math/bits.deBruijn64tab"], apart := false, laid := [("math/bits.deBruijn64tab", laid_math_bits_deBruijn64tab)], narrowed := true }
def LivecheckFindsWhatIsMissingUptoSaid : Prop := livecheckFindsWhatIsMissingUptoRow.holds Tryd.pinned (OpenSpec.upto livecheckFindsWhatIsMissingSpec)

/-- 'spillframelaw16.LivenessSolvesTheEquations', WHERE WHAT IT READS IS OF BULK AT MOST 1048576: true; the input reads as it did. -/
def livenessSolvesTheEquationsUptoRow : OpenClaim := { program := "ytcelninhkmhjkaadoor", sum := "25c5e362e0755fa27a3fc5b86896ffad3184ffb86b2a3a8081da903cf8808047", func := "spillframe/spillframelaw16.LivenessSolvesTheEquations", spec := "livenessSolvesTheEquations", unfollowed := true, recurses := true, named := ["math/bits.deBruijn64tab"], apart := false, laid := [("math/bits.deBruijn64tab", laid_math_bits_deBruijn64tab)], narrowed := true }
def LivenessSolvesTheEquationsUptoSaid : Prop := livenessSolvesTheEquationsUptoRow.holds Tryd.pinned (OpenSpec.upto livenessSolvesTheEquationsSpec)

/-- 'spillframelaw16.LivenessSolve', WHERE WHAT IT READS IS OF BULK AT MOST 1048576: true; the input reads as it did. -/
def livenessSolveUptoRow : OpenClaim := { program := "ytcelninhkmhjkaadoor", sum := "25c5e362e0755fa27a3fc5b86896ffad3184ffb86b2a3a8081da903cf8808047", func := "spillframe/spillframelaw16.LivenessSolve", spec := "livenessSolve", unfollowed := true, recurses := true, named := ["math/bits.deBruijn64tab"], apart := false, laid := [("math/bits.deBruijn64tab", laid_math_bits_deBruijn64tab)], narrowed := true }
def LivenessSolveUptoSaid : Prop := livenessSolveUptoRow.holds Tryd.pinned (OpenSpec.upto livenessSolveSpec)

/-- 'spillframelaw16.LivenessSame', WHERE WHAT IT READS IS OF BULK AT MOST 1048576: true; the input reads as it did. -/
def livenessSameUptoRow : OpenClaim := { program := "ytcelninhkmhjkaadoor", sum := "25c5e362e0755fa27a3fc5b86896ffad3184ffb86b2a3a8081da903cf8808047", func := "spillframe/spillframelaw16.LivenessSame", spec := "livenessSame", unfollowed := true, recurses := true, named := ["math/bits.deBruijn64tab"], apart := false, laid := [("math/bits.deBruijn64tab", laid_math_bits_deBruijn64tab)], narrowed := true }
def LivenessSameUptoSaid : Prop := livenessSameUptoRow.holds Tryd.pinned (OpenSpec.upto livenessSameSpec)

/-- 'spillframelaw16.LivenessSteps', WHERE WHAT IT READS IS OF BULK AT MOST 1048576: true; the input reads as it did. -/
def livenessStepsUptoRow : OpenClaim := { program := "ytcelninhkmhjkaadoor", sum := "25c5e362e0755fa27a3fc5b86896ffad3184ffb86b2a3a8081da903cf8808047", func := "spillframe/spillframelaw16.LivenessSteps", spec := "livenessSteps", unfollowed := true, recurses := true, named := ["math/bits.deBruijn64tab"], apart := false, laid := [("math/bits.deBruijn64tab", laid_math_bits_deBruijn64tab)], narrowed := true }
def LivenessStepsUptoSaid : Prop := livenessStepsUptoRow.holds Tryd.pinned (OpenSpec.upto livenessStepsSpec)

/-- 'spillframelaw17.LivecheckCheck', WHERE WHAT IT READS IS OF BULK AT MOST 1048576: true; the input reads as it did. -/
def livecheckCheckUptoRow : OpenClaim := { program := "ytcelninhkmhjkaadoor", sum := "25c5e362e0755fa27a3fc5b86896ffad3184ffb86b2a3a8081da903cf8808047", func := "spillframe/spillframelaw17.LivecheckCheck", spec := "livecheckCheck", unfollowed := true, recurses := true, named := ["math/bits.deBruijn64tab"], apart := false, laid := [("math/bits.deBruijn64tab", laid_math_bits_deBruijn64tab)], narrowed := true }
def LivecheckCheckUptoSaid : Prop := livecheckCheckUptoRow.holds Tryd.pinned (OpenSpec.upto livecheckCheckSpec)

/-- 'spillframelaw17.LivecheckAcceptsSolutions', WHERE WHAT IT READS IS OF BULK AT MOST 1048576: true; the input reads as it did. -/
def livecheckAcceptsSolutionsUptoRow : OpenClaim := { program := "ytcelninhkmhjkaadoor", sum := "25c5e362e0755fa27a3fc5b86896ffad3184ffb86b2a3a8081da903cf8808047", func := "spillframe/spillframelaw17.LivecheckAcceptsSolutions", spec := "livecheckAcceptsSolutions", unfollowed := true, recurses := true, named := ["math/bits.deBruijn64tab"], apart := false, laid := [("math/bits.deBruijn64tab", laid_math_bits_deBruijn64tab)], narrowed := true }
def LivecheckAcceptsSolutionsUptoSaid : Prop := livecheckAcceptsSolutionsUptoRow.holds Tryd.pinned (OpenSpec.upto livecheckAcceptsSolutionsSpec)

/-- 'spillframelaw18.InterfereGraph', WHERE WHAT IT READS IS OF BULK AT MOST 1048576: true; the input reads as it did. -/
def interfereGraphUptoRow : OpenClaim := { program := "ytcelninhkmhjkaadoor", sum := "25c5e362e0755fa27a3fc5b86896ffad3184ffb86b2a3a8081da903cf8808047", func := "spillframe/spillframelaw18.InterfereGraph", spec := "interfereGraph", unfollowed := true, recurses := true, named := ["math/bits.deBruijn64tab"], apart := false, laid := [("math/bits.deBruijn64tab", laid_math_bits_deBruijn64tab)], narrowed := true }
def InterfereGraphUptoSaid : Prop := interfereGraphUptoRow.holds Tryd.pinned (OpenSpec.upto interfereGraphSpec)

/-- 'spillframelaw18.InterfereStrictDiffersByMoves', WHERE WHAT IT READS IS OF BULK AT MOST 1048576: true; the input reads as it did. -/
def interfereStrictDiffersByMovesUptoRow : OpenClaim := { program := "ytcelninhkmhjkaadoor", sum := "25c5e362e0755fa27a3fc5b86896ffad3184ffb86b2a3a8081da903cf8808047", func := "spillframe/spillframelaw18.InterfereStrictDiffersByMoves", spec := "interfereStrictDiffersByMoves", unfollowed := true, recurses := true, named := ["math/bits.deBruijn64tab"], apart := false, laid := [("math/bits.deBruijn64tab", laid_math_bits_deBruijn64tab)], narrowed := true }
def InterfereStrictDiffersByMovesUptoSaid : Prop := interfereStrictDiffersByMovesUptoRow.holds Tryd.pinned (OpenSpec.upto interfereStrictDiffersByMovesSpec)

end Rows
end Go.Proofs.YtcelninhkmhjkaaDoor
