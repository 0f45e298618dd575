/-
 DriverOverflows: more facts about its whole program.
-/
import Derived.Test.YtcaoepecbgggcaaGreatDoorRows
import Derived.Test.YtcaoepecbgggcaaGreatDoorTie
import Derived.LaidMore
import Derived.SevenTiedAt
import Derived.KernelRfl
import Derived.JoinedOf
namespace Go.Proofs.YtcaoepecbgggcaaGreatDoor.lDriverOverflows
open Go Go.Proofs Go.Proofs.YtcaoepecbgggcaaGreatDoor
set_option maxRecDepth 100000
theorem kfn:Tryz.pinned.checked.prog.funcNamed Rows.driverOverflowsRow.func=some 8:=by kernel_rfl
theorem kwf:Rows.driverOverflowsRow.wfByText (OpenSpec.ofChange Rows.driverOverflowsSpec)=true:=by kernel_rfl
theorem AxB:Tryz.pinned.checked.prog.mainIs=some (((true, "21fe10a0002c27421bda3110228641d4568c42862fae462e89c8c481f7ce6d93"):Bool×String).1, ((true, "21fe10a0002c27421bda3110228641d4568c42862fae462e89c8c481f7ce6d93"):Bool×String).2.toList):=by kernel_rfl
theorem klk:false=Tryz.pinned.checked.prog.looks []:=by kernel_rfl
theorem kst:([85, 4].all λu=> !Tryz.prog.wantsStandIn u)=true:=by kernel_rfl
theorem kgo:false=Rows.driverOverflowsRow.goesBy Tryz.pinned.checked.prog:=by kernel_rfl
end Go.Proofs.YtcaoepecbgggcaaGreatDoor.lDriverOverflows
