/-
 ReportNeverSavesLessThanNothing: facts about its whole program, each by itself (together they want too much memory).
-/
import Derived.Test.YtmmchhpdaogopaaGreatDoorTie
import Derived.LaidMore
namespace Go.Proofs.YtmmchhpdaogopaaGreatDoor.lReportNeverSavesLessThanNothing
open Go Go.Proofs Go.Proofs.YtmmchhpdaogopaaGreatDoor
set_option maxRecDepth 100000
theorem k0:(laidOutB Tryz.pinned.checked.prog=true):=by kernel_rfl
theorem k1:(mapsRowed Tryz.pinned.checked.prog=true):=by kernel_rfl
theorem k2:((Rows.reportNeverSavesLessThanNothingRow.inPlace==Tryz.pinned.checked.prog.inPlace 4)=true):=by kernel_rfl
theorem k3:((Rows.reportNeverSavesLessThanNothingRow.unfollowed==Tryz.pinned.checked.prog.unfollowed 4)=true):=by kernel_rfl
theorem k4:((Rows.reportNeverSavesLessThanNothingRow.recurses==Tryz.pinned.checked.prog.recurses 4)=true):=by kernel_rfl
theorem k5:((Rows.reportNeverSavesLessThanNothingRow.named==Tryz.pinned.checked.prog.varsNamed 4)=true):=by kernel_rfl
theorem k6:((Rows.reportNeverSavesLessThanNothingRow.plainKeys==Tryz.pinned.checked.prog.plainKeys)=true):=by kernel_rfl
theorem kjf:joinedFacts Tryz.pinned.checked.prog 4 Tryz.f4 Rows.reportNeverSavesLessThanNothingSpec Rows.reportNeverSavesLessThanNothingRow=true:=by
  unfold joinedFacts;rw[k0, k1, k2, k3, k4, k5, k6]
  kernel_rfl
end Go.Proofs.YtmmchhpdaogopaaGreatDoor.lReportNeverSavesLessThanNothing
