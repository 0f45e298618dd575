/-
  NARROWER THAN 'FOR EVERY INPUT', by the rows' own cells (each row's printed sentence says how): DriverChoose: laid · DriverBuild: laid · DriverIsTotal: laid · DriverBuildsAreCertified: laid · DriverTakesTheOptimiser: laid · DriverOverflows: laid.
  DERIVED. THE GIVEN ROWS OF THIS SEAT. 6 by the template 'for every input the law returns true; each argument reads behind the call as it read before'; 0 by the template 'total and deterministic' (their statements: YtcaoepecbgggcaaGreatDoorTotals.lean).
  GIVEN WITH THE SEED: the statements are not yours to turn. If you find one false, say at which input.
  Laid BY PROGRAM, IN A SANDBOX (cutbox-rows.mjs): the forced cells as the released guide's own fill.sh prints them over the translation a67fb10706188a26… (all of the seat's roots in one cut). By AI agents, Wed Nov 11 2026. No macro, syntax, notation, axiom, sorry.
-/
import Derived.Test.YtcaoepecbgggcaaGreatDoorChecked
import GoSem.Claim
import GoSem.ClaimJoined
import GoSem.ClaimMapViews
import Derived.JoinedTies
import Derived.KernelRfl
namespace Go.Proofs.YtcaoepecbgggcaaGreatDoor
/- THE CELL 'sum', in the pinned program and in every row, IS THE sha256 OF THE DUMP (.gsa) THAT YtcaoepecbgggcaaGreatDoorProg.lean LOADS. Nothing in Lean hashes anything: it is a label: what it is worth is what the hold of that sum in a sandbox is worth. -/
noncomputable def Tryz.pinned : Pinned := { name := "ytcaoepecbgggcaagreatdoor", sum := "a67fb10706188a26f85e899851000f44f7c0985b2bc8853771b9855cc52e4040", checked := Tryz.checked }
namespace Rows
def none {H : Type} : Left H := { results := [], args := [] }

/- WHAT THE LISTED PACKAGE-LEVEL VARIABLES READ AS WHEN THE CALL BEGINS. Each datum BY PROGRAM (the guide's laid-datum.mjs) off the statement by which the dump's own 'gosem.cut.vars' lays the variable. In a bare row this is a premise. The card (YtcaoepecbgggcaaGreatDoorCards.lean) ties it to the program's text. -/
def laid_math_bits_deBruijn64tab {H : Type} : DataW H := .agg [.lit (.int .u8 0), .lit (.int .u8 1), .lit (.int .u8 56), .lit (.int .u8 2), .lit (.int .u8 57), .lit (.int .u8 49), .lit (.int .u8 28), .lit (.int .u8 3), .lit (.int .u8 61), .lit (.int .u8 58), .lit (.int .u8 42), .lit (.int .u8 50), .lit (.int .u8 38), .lit (.int .u8 29), .lit (.int .u8 17), .lit (.int .u8 4), .lit (.int .u8 62), .lit (.int .u8 47), .lit (.int .u8 59), .lit (.int .u8 36), .lit (.int .u8 45), .lit (.int .u8 43), .lit (.int .u8 51), .lit (.int .u8 22), .lit (.int .u8 53), .lit (.int .u8 39), .lit (.int .u8 33), .lit (.int .u8 30), .lit (.int .u8 24), .lit (.int .u8 18), .lit (.int .u8 12), .lit (.int .u8 5), .lit (.int .u8 63), .lit (.int .u8 55), .lit (.int .u8 48), .lit (.int .u8 27), .lit (.int .u8 60), .lit (.int .u8 41), .lit (.int .u8 37), .lit (.int .u8 16), .lit (.int .u8 46), .lit (.int .u8 35), .lit (.int .u8 44), .lit (.int .u8 21), .lit (.int .u8 52), .lit (.int .u8 32), .lit (.int .u8 23), .lit (.int .u8 11), .lit (.int .u8 54), .lit (.int .u8 26), .lit (.int .u8 40), .lit (.int .u8 15), .lit (.int .u8 34), .lit (.int .u8 20), .lit (.int .u8 31), .lit (.int .u8 10), .lit (.int .u8 25), .lit (.int .u8 14), .lit (.int .u8 19), .lit (.int .u8 9), .lit (.int .u8 13), .lit (.int .u8 8), .lit (.int .u8 7), .lit (.int .u8 6)]
def laid_spillframe_sir_shapes {H : Type} : DataW H := .agg [.agg [.lit (.int .i64 1), .lit (.int .i64 0), .lit (.int .i64 0), .lit (.bool true)], .agg [.lit (.int .i64 1), .lit (.int .i64 1), .lit (.int .i64 0), .lit (.bool false)], .agg [.lit (.int .i64 1), .lit (.int .i64 1), .lit (.int .i64 1), .lit (.bool false)], .agg [.lit (.int .i64 1), .lit (.int .i64 1), .lit (.int .i64 1), .lit (.bool false)], .agg [.lit (.int .i64 1), .lit (.int .i64 1), .lit (.int .i64 1), .lit (.bool false)], .agg [.lit (.int .i64 1), .lit (.int .i64 1), .lit (.int .i64 1), .lit (.bool false)], .agg [.lit (.int .i64 1), .lit (.int .i64 1), .lit (.int .i64 1), .lit (.bool false)], .agg [.lit (.int .i64 1), .lit (.int .i64 1), .lit (.int .i64 1), .lit (.bool false)], .agg [.lit (.int .i64 1), .lit (.int .i64 1), .lit (.int .i64 1), .lit (.bool false)], .agg [.lit (.int .i64 1), .lit (.int .i64 1), .lit (.int .i64 1), .lit (.bool false)], .agg [.lit (.int .i64 1), .lit (.int .i64 1), .lit (.int .i64 1), .lit (.bool false)], .agg [.lit (.int .i64 1), .lit (.int .i64 1), .lit (.int .i64 1), .lit (.bool false)], .agg [.lit (.int .i64 1), .lit (.int .i64 1), .lit (.int .i64 0), .lit (.bool false)], .agg [.lit (.int .i64 1), .lit (.int .i64 0), .lit (.int .i64 0), .lit (.bool false)], .agg [.lit (.int .i64 1), .lit (.int .i64 0), .lit (.int .i64 0), .lit (.bool false)], .agg [.lit (.int .i64 1), .lit (.int .i64 2), .lit (.int .i64 0), .lit (.bool false)], .agg [.lit (.int .i64 2), .lit (.int .i64 1), .lit (.int .i64 0), .lit (.bool false)], .agg [.lit (.int .i64 2), .lit (.int .i64 2), .lit (.int .i64 0), .lit (.bool false)], .agg [.lit (.int .i64 4), .lit (.int .i64 1), .lit (.int .i64 0), .lit (.bool false)], .agg [.lit (.int .i64 1), .lit (.int .i64 5), .lit (.int .i64 0), .lit (.bool false)], .agg [.lit (.int .i64 6), .lit (.int .i64 0), .lit (.int .i64 0), .lit (.bool false)], .agg [.lit (.int .i64 1), .lit (.int .i64 6), .lit (.int .i64 0), .lit (.bool false)], .agg [.lit (.int .i64 3), .lit (.int .i64 0), .lit (.int .i64 0), .lit (.bool false)], .agg [.lit (.int .i64 0), .lit (.int .i64 0), .lit (.int .i64 0), .lit (.bool false)], .agg [.lit (.int .i64 0), .lit (.int .i64 0), .lit (.int .i64 0), .lit (.bool true)]]

/-- 'spillframelaw32.DriverChoose': WHATEVER THE INPUT: true; the input reads as it did. -/
def driverChooseSpec : ChangeSpec := { name := "driverChoose", fn := fun _ => fun
  | [d1, d2] => { results := [.lit (.bool true)], args := [d1, d2] }
  | _ => none }
def driverChooseRow : OpenClaim := { program := "ytcaoepecbgggcaagreatdoor", sum := "a67fb10706188a26f85e899851000f44f7c0985b2bc8853771b9855cc52e4040", func := "spillframe/spillframelaw32.DriverChoose", spec := "driverChoose", unfollowed := true, recurses := true, named := ["spillframe/sir.shapes", "math/bits.deBruijn64tab"], plainKeys := false, apart := false, laid := [("math/bits.deBruijn64tab", laid_math_bits_deBruijn64tab), ("spillframe/sir.shapes", laid_spillframe_sir_shapes)] }
def DriverChooseSaid : Prop := driverChooseRow.holds Tryz.pinned (OpenSpec.ofChange driverChooseSpec)

/-- ITS FALSE NEIGHBOUR: 'it returns false'. Refute it at one input. -/
def driverChooseWrong : ChangeSpec := { name := "driverChoose", fn := fun _ => fun
  | [d1, d2] => { results := [.lit (.bool false)], args := [d1, d2] }
  | _ => none }
def DriverChooseWrongFalsely : Prop := driverChooseRow.holds Tryz.pinned (OpenSpec.ofChange driverChooseWrong)

/-- 'spillframelaw32.DriverBuild': WHATEVER THE INPUT: true; the input reads as it did. -/
def driverBuildSpec : ChangeSpec := { name := "driverBuild", fn := fun _ => fun
  | [d1, d2] => { results := [.lit (.bool true)], args := [d1, d2] }
  | _ => none }
def driverBuildRow : OpenClaim := { program := "ytcaoepecbgggcaagreatdoor", sum := "a67fb10706188a26f85e899851000f44f7c0985b2bc8853771b9855cc52e4040", func := "spillframe/spillframelaw32.DriverBuild", spec := "driverBuild", unfollowed := true, recurses := true, named := ["spillframe/sir.shapes", "math/bits.deBruijn64tab"], plainKeys := false, apart := false, laid := [("math/bits.deBruijn64tab", laid_math_bits_deBruijn64tab), ("spillframe/sir.shapes", laid_spillframe_sir_shapes)] }
def DriverBuildSaid : Prop := driverBuildRow.holds Tryz.pinned (OpenSpec.ofChange driverBuildSpec)

/-- ITS FALSE NEIGHBOUR: 'it returns false'. Refute it at one input. -/
def driverBuildWrong : ChangeSpec := { name := "driverBuild", fn := fun _ => fun
  | [d1, d2] => { results := [.lit (.bool false)], args := [d1, d2] }
  | _ => none }
def DriverBuildWrongFalsely : Prop := driverBuildRow.holds Tryz.pinned (OpenSpec.ofChange driverBuildWrong)

/-- 'spillframelaw32.DriverIsTotal': WHATEVER THE INPUT: true; the input reads as it did. -/
def driverIsTotalSpec : ChangeSpec := { name := "driverIsTotal", fn := fun _ => fun
  | [d] => { results := [.lit (.bool true)], args := [d] }
  | _ => none }
def driverIsTotalRow : OpenClaim := { program := "ytcaoepecbgggcaagreatdoor", sum := "a67fb10706188a26f85e899851000f44f7c0985b2bc8853771b9855cc52e4040", func := "spillframe/spillframelaw32.DriverIsTotal", spec := "driverIsTotal", unfollowed := true, recurses := true, named := ["spillframe/sir.shapes", "math/bits.deBruijn64tab"], plainKeys := false, apart := false, laid := [("math/bits.deBruijn64tab", laid_math_bits_deBruijn64tab), ("spillframe/sir.shapes", laid_spillframe_sir_shapes)] }
def DriverIsTotalSaid : Prop := driverIsTotalRow.holds Tryz.pinned (OpenSpec.ofChange driverIsTotalSpec)

/-- ITS FALSE NEIGHBOUR: 'it returns false'. Refute it at one input. -/
def driverIsTotalWrong : ChangeSpec := { name := "driverIsTotal", fn := fun _ => fun
  | [d] => { results := [.lit (.bool false)], args := [d] }
  | _ => none }
def DriverIsTotalWrongFalsely : Prop := driverIsTotalRow.holds Tryz.pinned (OpenSpec.ofChange driverIsTotalWrong)

/-- 'spillframelaw32.DriverBuildsAreCertified': WHATEVER THE INPUT: true; the input reads as it did. -/
def driverBuildsAreCertifiedSpec : ChangeSpec := { name := "driverBuildsAreCertified", fn := fun _ => fun
  | [d] => { results := [.lit (.bool true)], args := [d] }
  | _ => none }
def driverBuildsAreCertifiedRow : OpenClaim := { program := "ytcaoepecbgggcaagreatdoor", sum := "a67fb10706188a26f85e899851000f44f7c0985b2bc8853771b9855cc52e4040", func := "spillframe/spillframelaw32.DriverBuildsAreCertified", spec := "driverBuildsAreCertified", unfollowed := true, recurses := true, named := ["spillframe/sir.shapes", "math/bits.deBruijn64tab"], plainKeys := false, apart := false, laid := [("math/bits.deBruijn64tab", laid_math_bits_deBruijn64tab), ("spillframe/sir.shapes", laid_spillframe_sir_shapes)] }
def DriverBuildsAreCertifiedSaid : Prop := driverBuildsAreCertifiedRow.holds Tryz.pinned (OpenSpec.ofChange driverBuildsAreCertifiedSpec)

/-- ITS FALSE NEIGHBOUR: 'it returns false'. Refute it at one input. -/
def driverBuildsAreCertifiedWrong : ChangeSpec := { name := "driverBuildsAreCertified", fn := fun _ => fun
  | [d] => { results := [.lit (.bool false)], args := [d] }
  | _ => none }
def DriverBuildsAreCertifiedWrongFalsely : Prop := driverBuildsAreCertifiedRow.holds Tryz.pinned (OpenSpec.ofChange driverBuildsAreCertifiedWrong)

/-- 'spillframelaw32.DriverTakesTheOptimiser': WHATEVER THE INPUT: true; the input reads as it did. -/
def driverTakesTheOptimiserSpec : ChangeSpec := { name := "driverTakesTheOptimiser", fn := fun _ => fun
  | [d] => { results := [.lit (.bool true)], args := [d] }
  | _ => none }
def driverTakesTheOptimiserRow : OpenClaim := { program := "ytcaoepecbgggcaagreatdoor", sum := "a67fb10706188a26f85e899851000f44f7c0985b2bc8853771b9855cc52e4040", func := "spillframe/spillframelaw32.DriverTakesTheOptimiser", spec := "driverTakesTheOptimiser", unfollowed := true, recurses := true, named := ["spillframe/sir.shapes", "math/bits.deBruijn64tab"], plainKeys := false, apart := false, laid := [("math/bits.deBruijn64tab", laid_math_bits_deBruijn64tab), ("spillframe/sir.shapes", laid_spillframe_sir_shapes)] }
def DriverTakesTheOptimiserSaid : Prop := driverTakesTheOptimiserRow.holds Tryz.pinned (OpenSpec.ofChange driverTakesTheOptimiserSpec)

/-- ITS FALSE NEIGHBOUR: 'it returns false'. Refute it at one input. -/
def driverTakesTheOptimiserWrong : ChangeSpec := { name := "driverTakesTheOptimiser", fn := fun _ => fun
  | [d] => { results := [.lit (.bool false)], args := [d] }
  | _ => none }
def DriverTakesTheOptimiserWrongFalsely : Prop := driverTakesTheOptimiserRow.holds Tryz.pinned (OpenSpec.ofChange driverTakesTheOptimiserWrong)

/-- 'spillframelaw32.DriverOverflows': WHATEVER THE INPUT: true; the input reads as it did. -/
def driverOverflowsSpec : ChangeSpec := { name := "driverOverflows", fn := fun _ => fun
  | [d1, d2] => { results := [.lit (.bool true)], args := [d1, d2] }
  | _ => none }
def driverOverflowsRow : OpenClaim := { program := "ytcaoepecbgggcaagreatdoor", sum := "a67fb10706188a26f85e899851000f44f7c0985b2bc8853771b9855cc52e4040", func := "spillframe/spillframelaw32.DriverOverflows", spec := "driverOverflows", unfollowed := true, recurses := true, named := ["spillframe/sir.shapes", "math/bits.deBruijn64tab"], plainKeys := false, apart := false, laid := [("math/bits.deBruijn64tab", laid_math_bits_deBruijn64tab), ("spillframe/sir.shapes", laid_spillframe_sir_shapes)] }
def DriverOverflowsSaid : Prop := driverOverflowsRow.holds Tryz.pinned (OpenSpec.ofChange driverOverflowsSpec)

/-- ITS FALSE NEIGHBOUR: 'it returns false'. Refute it at one input. -/
def driverOverflowsWrong : ChangeSpec := { name := "driverOverflows", fn := fun _ => fun
  | [d1, d2] => { results := [.lit (.bool false)], args := [d1, d2] }
  | _ => none }
def DriverOverflowsWrongFalsely : Prop := driverOverflowsRow.holds Tryz.pinned (OpenSpec.ofChange driverOverflowsWrong)

/- THE SECOND FORM. 'bulk': how many values and letters a reading holds, each counted each time it is reached (what is shared counts as often as it is met; a slice's spare places count too). A statement '..UptoSaid' is the law's where the arguments, and the package variables that the reading takes, are together of bulk at most 1048576: NARROWER than '..Said'. Prove '..Said' where nothing that the law and all that it calls make is longer than what came in: it says more and counts as full. Else prove '..UptoSaid'. A law counts once. -/
mutual
def uptoBulk {H : Type} : DataW H → Nat
  | .lit (.string bytes) => bytes.length + 1
  | .lit _ => 1
  | .nil => 1
  | .ptr d => uptoBulk d + 1
  | .slice elems spare => uptoBulkAll elems + uptoBulkAll spare + 1
  | .agg parts => uptoBulkAll parts + 1
  | .iface _ d => uptoBulk d + 1
  | .map entries => uptoBulkEntries entries + 1
  | .held _ => 1
def uptoBulkAll {H : Type} : List (DataW H) → Nat
  | [] => 0
  | d :: r => uptoBulk d + uptoBulkAll r
def uptoBulkEntries {H : Type} : List (Lit × DataW H) → Nat
  | [] => 0
  | x :: r => uptoBulkEntry x + uptoBulkEntries r
def uptoBulkEntry {H : Type} : Lit × DataW H → Nat
  | (.string bytes, d) => bytes.length + uptoBulk d + 1
  | (_, d) => uptoBulk d + 1
 end
def uptoSmall : (H : Type) → List (DataW H) → Bool := fun _ ds => decide (uptoBulkAll ds ≤ 1048576)
def OpenSpec.upto (s : _root_.Go.ChangeSpec) : _root_.Go.OpenSpec := { _root_.Go.OpenSpec.ofChange s with cond := some uptoSmall }

/-- 'spillframelaw32.DriverChoose', WHERE WHAT IT READS IS OF BULK AT MOST 1048576: true; the input reads as it did. -/
def driverChooseUptoRow : OpenClaim := { program := "ytcaoepecbgggcaagreatdoor", sum := "a67fb10706188a26f85e899851000f44f7c0985b2bc8853771b9855cc52e4040", func := "spillframe/spillframelaw32.DriverChoose", spec := "driverChoose", unfollowed := true, recurses := true, named := ["spillframe/sir.shapes", "math/bits.deBruijn64tab"], plainKeys := false, apart := false, laid := [("math/bits.deBruijn64tab", laid_math_bits_deBruijn64tab), ("spillframe/sir.shapes", laid_spillframe_sir_shapes)], narrowed := true }
def DriverChooseUptoSaid : Prop := driverChooseUptoRow.holds Tryz.pinned (OpenSpec.upto driverChooseSpec)

/-- 'spillframelaw32.DriverBuild', WHERE WHAT IT READS IS OF BULK AT MOST 1048576: true; the input reads as it did. -/
def driverBuildUptoRow : OpenClaim := { program := "ytcaoepecbgggcaagreatdoor", sum := "a67fb10706188a26f85e899851000f44f7c0985b2bc8853771b9855cc52e4040", func := "spillframe/spillframelaw32.DriverBuild", spec := "driverBuild", unfollowed := true, recurses := true, named := ["spillframe/sir.shapes", "math/bits.deBruijn64tab"], plainKeys := false, apart := false, laid := [("math/bits.deBruijn64tab", laid_math_bits_deBruijn64tab), ("spillframe/sir.shapes", laid_spillframe_sir_shapes)], narrowed := true }
def DriverBuildUptoSaid : Prop := driverBuildUptoRow.holds Tryz.pinned (OpenSpec.upto driverBuildSpec)

/-- 'spillframelaw32.DriverIsTotal', WHERE WHAT IT READS IS OF BULK AT MOST 1048576: true; the input reads as it did. -/
def driverIsTotalUptoRow : OpenClaim := { program := "ytcaoepecbgggcaagreatdoor", sum := "a67fb10706188a26f85e899851000f44f7c0985b2bc8853771b9855cc52e4040", func := "spillframe/spillframelaw32.DriverIsTotal", spec := "driverIsTotal", unfollowed := true, recurses := true, named := ["spillframe/sir.shapes", "math/bits.deBruijn64tab"], plainKeys := false, apart := false, laid := [("math/bits.deBruijn64tab", laid_math_bits_deBruijn64tab), ("spillframe/sir.shapes", laid_spillframe_sir_shapes)], narrowed := true }
def DriverIsTotalUptoSaid : Prop := driverIsTotalUptoRow.holds Tryz.pinned (OpenSpec.upto driverIsTotalSpec)

/-- 'spillframelaw32.DriverBuildsAreCertified', WHERE WHAT IT READS IS OF BULK AT MOST 1048576: true; the input reads as it did. -/
def driverBuildsAreCertifiedUptoRow : OpenClaim := { program := "ytcaoepecbgggcaagreatdoor", sum := "a67fb10706188a26f85e899851000f44f7c0985b2bc8853771b9855cc52e4040", func := "spillframe/spillframelaw32.DriverBuildsAreCertified", spec := "driverBuildsAreCertified", unfollowed := true, recurses := true, named := ["spillframe/sir.shapes", "math/bits.deBruijn64tab"], plainKeys := false, apart := false, laid := [("math/bits.deBruijn64tab", laid_math_bits_deBruijn64tab), ("spillframe/sir.shapes", laid_spillframe_sir_shapes)], narrowed := true }
def DriverBuildsAreCertifiedUptoSaid : Prop := driverBuildsAreCertifiedUptoRow.holds Tryz.pinned (OpenSpec.upto driverBuildsAreCertifiedSpec)

/-- 'spillframelaw32.DriverTakesTheOptimiser', WHERE WHAT IT READS IS OF BULK AT MOST 1048576: true; the input reads as it did. -/
def driverTakesTheOptimiserUptoRow : OpenClaim := { program := "ytcaoepecbgggcaagreatdoor", sum := "a67fb10706188a26f85e899851000f44f7c0985b2bc8853771b9855cc52e4040", func := "spillframe/spillframelaw32.DriverTakesTheOptimiser", spec := "driverTakesTheOptimiser", unfollowed := true, recurses := true, named := ["spillframe/sir.shapes", "math/bits.deBruijn64tab"], plainKeys := false, apart := false, laid := [("math/bits.deBruijn64tab", laid_math_bits_deBruijn64tab), ("spillframe/sir.shapes", laid_spillframe_sir_shapes)], narrowed := true }
def DriverTakesTheOptimiserUptoSaid : Prop := driverTakesTheOptimiserUptoRow.holds Tryz.pinned (OpenSpec.upto driverTakesTheOptimiserSpec)

/-- 'spillframelaw32.DriverOverflows', WHERE WHAT IT READS IS OF BULK AT MOST 1048576: true; the input reads as it did. -/
def driverOverflowsUptoRow : OpenClaim := { program := "ytcaoepecbgggcaagreatdoor", sum := "a67fb10706188a26f85e899851000f44f7c0985b2bc8853771b9855cc52e4040", func := "spillframe/spillframelaw32.DriverOverflows", spec := "driverOverflows", unfollowed := true, recurses := true, named := ["spillframe/sir.shapes", "math/bits.deBruijn64tab"], plainKeys := false, apart := false, laid := [("math/bits.deBruijn64tab", laid_math_bits_deBruijn64tab), ("spillframe/sir.shapes", laid_spillframe_sir_shapes)], narrowed := true }
def DriverOverflowsUptoSaid : Prop := driverOverflowsUptoRow.holds Tryz.pinned (OpenSpec.upto driverOverflowsSpec)

end Rows
end Go.Proofs.YtcaoepecbgggcaaGreatDoor
