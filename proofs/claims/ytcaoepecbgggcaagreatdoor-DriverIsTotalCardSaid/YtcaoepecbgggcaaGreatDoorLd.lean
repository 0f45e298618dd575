/-
 DriverIsTotal: more facts about its whole program.
-/
import Derived.Test.YtcaoepecbgggcaaGreatDoorTie
import Derived.LaidMore
namespace Go.Proofs.YtcaoepecbgggcaaGreatDoor.lDriverIsTotal
open Go Go.Proofs Go.Proofs.YtcaoepecbgggcaaGreatDoor
set_option maxRecDepth 100000
theorem kfn:Tryz.pinned.checked.prog.funcNamed Rows.driverIsTotalRow.func=some 5:=by kernel_rfl
theorem kwf:Rows.driverIsTotalRow.wfByText (OpenSpec.ofChange Rows.driverIsTotalSpec)=true:=by kernel_rfl
theorem Azd:Tryz.pinned.checked.prog.mainIs=some (((true, "21fe10a0002c27421bda3110228641d4568c42862fae462e89c8c481f7ce6d93"):Bool×String).1, ((true, "21fe10a0002c27421bda3110228641d4568c42862fae462e89c8c481f7ce6d93"):Bool×String).2.toList):=by kernel_rfl
theorem klk:false=Tryz.pinned.checked.prog.looks []:=by kernel_rfl
theorem kst:([22].all λu=> !Tryz.prog.wantsStandIn u)=true:=by kernel_rfl
theorem kgo:false=Rows.driverIsTotalRow.goesBy Tryz.pinned.checked.prog:=by kernel_rfl
end Go.Proofs.YtcaoepecbgggcaaGreatDoor.lDriverIsTotal
