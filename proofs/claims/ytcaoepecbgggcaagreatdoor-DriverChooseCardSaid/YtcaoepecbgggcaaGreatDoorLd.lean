/-
 DriverChoose: more facts about its whole program.
-/
import Derived.Test.YtcaoepecbgggcaaGreatDoorRows
import Derived.Test.YtcaoepecbgggcaaGreatDoorTie
import Derived.LaidMore
import Derived.SevenTiedAt
import Derived.KernelRfl
import Derived.JoinedOf
namespace Go.Proofs.YtcaoepecbgggcaaGreatDoor.lDriverChoose
open Go Go.Proofs Go.Proofs.YtcaoepecbgggcaaGreatDoor
set_option maxRecDepth 100000
theorem kfn : Tryz.pinned.checked.prog.funcNamed Rows.driverChooseRow.func = some 3 := by kernel_rfl
theorem kwf : Rows.driverChooseRow.wfByText (OpenSpec.ofChange Rows.driverChooseSpec) = true := by kernel_rfl
theorem kmain : Tryz.pinned.checked.prog.mainIs = some (((true, "21fe10a0002c27421bda3110228641d4568c42862fae462e89c8c481f7ce6d93") : Bool × String).1, ((true, "21fe10a0002c27421bda3110228641d4568c42862fae462e89c8c481f7ce6d93") : Bool × String).2.toList) := by kernel_rfl
theorem klk : false = Tryz.pinned.checked.prog.looks [] := by kernel_rfl
theorem kst : ([22, 23].all fun u => !Tryz.prog.wantsStandIn u) = true := by kernel_rfl
theorem kgo : false = Rows.driverChooseRow.goesBy Tryz.pinned.checked.prog := by kernel_rfl
end Go.Proofs.YtcaoepecbgggcaaGreatDoor.lDriverChoose
