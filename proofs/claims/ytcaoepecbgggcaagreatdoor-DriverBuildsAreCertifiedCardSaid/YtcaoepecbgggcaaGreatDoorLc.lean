/-
 DriverBuildsAreCertified: facts about its whole program, each by itself (together they want too much memory).
-/
import Derived.Test.YtcaoepecbgggcaaGreatDoorTie
import Derived.LaidMore
namespace Go.Proofs.YtcaoepecbgggcaaGreatDoor.lDriverBuildsAreCertified
open Go Go.Proofs Go.Proofs.YtcaoepecbgggcaaGreatDoor
set_option maxRecDepth 100000
theorem k0:(laidOutB Tryz.pinned.checked.prog=true):=by kernel_rfl
theorem k1:(mapsRowed Tryz.pinned.checked.prog=true):=by kernel_rfl
theorem k2:((Rows.driverBuildsAreCertifiedRow.inPlace==Tryz.pinned.checked.prog.inPlace 6)=true):=by kernel_rfl
theorem k3:((Rows.driverBuildsAreCertifiedRow.unfollowed==Tryz.pinned.checked.prog.unfollowed 6)=true):=by kernel_rfl
theorem k4:((Rows.driverBuildsAreCertifiedRow.recurses==Tryz.pinned.checked.prog.recurses 6)=true):=by kernel_rfl
theorem k5:((Rows.driverBuildsAreCertifiedRow.named==Tryz.pinned.checked.prog.varsNamed 6)=true):=by kernel_rfl
theorem k6:((Rows.driverBuildsAreCertifiedRow.plainKeys==Tryz.pinned.checked.prog.plainKeys)=true):=by kernel_rfl
theorem kjf:joinedFacts Tryz.pinned.checked.prog 6 Tryz.f6 Rows.driverBuildsAreCertifiedSpec Rows.driverBuildsAreCertifiedRow=true:=by
  unfold joinedFacts;rw[k0, k1, k2, k3, k4, k5, k6]
  kernel_rfl
end Go.Proofs.YtcaoepecbgggcaaGreatDoor.lDriverBuildsAreCertified
