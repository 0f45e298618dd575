/-
 DriverIsTotal: facts about its whole program, each by itself (together they want too much memory).
-/
import Derived.Test.YtcaoepecbgggcaaGreatDoorTie
import Derived.LaidMore
namespace Go.Proofs.YtcaoepecbgggcaaGreatDoor.lDriverIsTotal
open Go Go.Proofs Go.Proofs.YtcaoepecbgggcaaGreatDoor
set_option maxRecDepth 100000
theorem k0:(laidOutB Tryz.pinned.checked.prog=true):=by kernel_rfl
theorem k1:(mapsRowed Tryz.pinned.checked.prog=true):=by kernel_rfl
theorem k2:((Rows.driverIsTotalRow.inPlace==Tryz.pinned.checked.prog.inPlace 5)=true):=by kernel_rfl
theorem k3:((Rows.driverIsTotalRow.unfollowed==Tryz.pinned.checked.prog.unfollowed 5)=true):=by kernel_rfl
theorem k4:((Rows.driverIsTotalRow.recurses==Tryz.pinned.checked.prog.recurses 5)=true):=by kernel_rfl
theorem k5:((Rows.driverIsTotalRow.named==Tryz.pinned.checked.prog.varsNamed 5)=true):=by kernel_rfl
theorem k6:((Rows.driverIsTotalRow.plainKeys==Tryz.pinned.checked.prog.plainKeys)=true):=by kernel_rfl
theorem kjf:joinedFacts Tryz.pinned.checked.prog 5 Tryz.f5 Rows.driverIsTotalSpec Rows.driverIsTotalRow=true:=by
  unfold joinedFacts;rw[k0, k1, k2, k3, k4, k5, k6]
  kernel_rfl
end Go.Proofs.YtcaoepecbgggcaaGreatDoor.lDriverIsTotal
