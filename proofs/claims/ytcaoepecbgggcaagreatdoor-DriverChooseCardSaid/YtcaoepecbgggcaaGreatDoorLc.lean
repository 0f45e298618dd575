/-
 DriverChoose: facts about its whole program, each by itself (together they want too much memory).
-/
import Derived.Test.YtcaoepecbgggcaaGreatDoorRows
import Derived.Test.YtcaoepecbgggcaaGreatDoorTie
import Derived.LaidMore
import Derived.SevenTiedAt
import Derived.KernelRfl
import Derived.JoinedOf
namespace Go.Proofs.YtcaoepecbgggcaaGreatDoor.lDriverChoose
open Go Go.Proofs Go.Proofs.YtcaoepecbgggcaaGreatDoor
set_option maxRecDepth 100000
theorem k0 : (laidOutB Tryz.pinned.checked.prog = true) := by kernel_rfl
theorem k1 : (mapsRowed Tryz.pinned.checked.prog = true) := by kernel_rfl
theorem k2 : ((Rows.driverChooseRow.inPlace == Tryz.pinned.checked.prog.inPlace 3) = true) := by kernel_rfl
theorem k3 : ((Rows.driverChooseRow.unfollowed == Tryz.pinned.checked.prog.unfollowed 3) = true) := by kernel_rfl
theorem k4 : ((Rows.driverChooseRow.recurses == Tryz.pinned.checked.prog.recurses 3) = true) := by kernel_rfl
theorem k5 : ((Rows.driverChooseRow.named == Tryz.pinned.checked.prog.varsNamed 3) = true) := by kernel_rfl
theorem k6 : ((Rows.driverChooseRow.plainKeys == Tryz.pinned.checked.prog.plainKeys) = true) := by kernel_rfl
theorem kjf : joinedFacts Tryz.pinned.checked.prog 3 Tryz.f3 Rows.driverChooseSpec Rows.driverChooseRow = true := by
  unfold joinedFacts
  rw [k0, k1, k2, k3, k4, k5, k6]
  kernel_rfl
end Go.Proofs.YtcaoepecbgggcaaGreatDoor.lDriverChoose
