/-
 DriverOverflows: facts about its whole program, each by itself (together they want too much memory).
-/
import Derived.Test.YtcaoepecbgggcaaGreatDoorRows
import Derived.Test.YtcaoepecbgggcaaGreatDoorTie
import Derived.LaidMore
import Derived.SevenTiedAt
import Derived.KernelRfl
import Derived.JoinedOf
namespace Go.Proofs.YtcaoepecbgggcaaGreatDoor.lDriverOverflows
open Go Go.Proofs Go.Proofs.YtcaoepecbgggcaaGreatDoor
set_option maxRecDepth 100000
theorem k0:(laidOutB Tryz.pinned.checked.prog=true):=by kernel_rfl
theorem k1:(mapsRowed Tryz.pinned.checked.prog=true):=by kernel_rfl
theorem k2:((Rows.driverOverflowsRow.inPlace==Tryz.pinned.checked.prog.inPlace 8)=true):=by kernel_rfl
theorem k3:((Rows.driverOverflowsRow.unfollowed==Tryz.pinned.checked.prog.unfollowed 8)=true):=by kernel_rfl
theorem k4:((Rows.driverOverflowsRow.recurses==Tryz.pinned.checked.prog.recurses 8)=true):=by kernel_rfl
theorem k5:((Rows.driverOverflowsRow.named==Tryz.pinned.checked.prog.varsNamed 8)=true):=by kernel_rfl
theorem k6:((Rows.driverOverflowsRow.plainKeys==Tryz.pinned.checked.prog.plainKeys)=true):=by kernel_rfl
theorem kjf:joinedFacts Tryz.pinned.checked.prog 8 Tryz.f8 Rows.driverOverflowsSpec Rows.driverOverflowsRow=true:=by
  unfold joinedFacts;rw[k0, k1, k2, k3, k4, k5, k6]
  kernel_rfl
end Go.Proofs.YtcaoepecbgggcaaGreatDoor.lDriverOverflows
