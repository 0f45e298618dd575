/-
 ReportNeverSavesLessThanNothing: more facts about its whole program.
-/
import Derived.Test.YtmmchhpdaogopaaGreatDoorTie
import Derived.LaidMore
namespace Go.Proofs.YtmmchhpdaogopaaGreatDoor.lReportNeverSavesLessThanNothing
open Go Go.Proofs Go.Proofs.YtmmchhpdaogopaaGreatDoor
set_option maxRecDepth 100000
theorem kfn:Tryz.pinned.checked.prog.funcNamed Rows.reportNeverSavesLessThanNothingRow.func=some 4:=by kernel_rfl
theorem kwf:Rows.reportNeverSavesLessThanNothingRow.wfByText (OpenSpec.ofChange Rows.reportNeverSavesLessThanNothingSpec)=true:=by kernel_rfl
theorem AwG:Tryz.pinned.checked.prog.mainIs=some (((true, "59ede5ad78a85a0a9e34ba68e37683c5c4831d03029a99758627828a551bd4f4"):Bool×String).1, ((true, "59ede5ad78a85a0a9e34ba68e37683c5c4831d03029a99758627828a551bd4f4"):Bool×String).2.toList):=by kernel_rfl
theorem klk:false=Tryz.pinned.checked.prog.looks []:=by kernel_rfl
theorem kst:([22].all λu=> !Tryz.prog.wantsStandIn u)=true:=by kernel_rfl
theorem kgo:false=Rows.reportNeverSavesLessThanNothingRow.goesBy Tryz.pinned.checked.prog:=by kernel_rfl
end Go.Proofs.YtmmchhpdaogopaaGreatDoor.lReportNeverSavesLessThanNothing
