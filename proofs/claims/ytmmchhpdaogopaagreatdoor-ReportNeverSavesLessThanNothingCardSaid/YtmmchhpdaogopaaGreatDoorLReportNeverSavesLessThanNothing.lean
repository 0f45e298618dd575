/-
  ReportNeverSavesLessThanNothing: for every input the law returns true.
-/
import Derived.Test.YtmmchhpdaogopaaGreatDoorCards
import Derived.Test.YtmmchhpdaogopaaGreatDoorLa
import Derived.Test.YtmmchhpdaogopaaGreatDoorLc
import Derived.Test.YtmmchhpdaogopaaGreatDoorLd
namespace Go.Proofs.YtmmchhpdaogopaaGreatDoor.lReportNeverSavesLessThanNothing
open Go Go.Dw Go.Proofs Go.Proofs.YtmmchhpdaogopaaGreatDoor Go.ChangeShapes Go.WideShapes Go.ChangeAt Go.RowKit
theorem over:Rows.ReportNeverSavesLessThanNothingSaid :=
  OpenClaim.holds_of_wide 4 Tryz.f4 rfl rfl rfl rfl rfl rfl rfl ⟨rfl, rfl, rfl, rfl, rfl⟩ rfl rfl rfl rfl rfl kfn Tryz.func4 kjf
    (of_decide_eq_true (by kernel_rfl)) (by unfold Func.isWrapper;first|(rw[if_pos (by decide +kernel)];kernel_rfl)|(rw[if_neg (by decide +kernel)];exact⟨rfl, rfl⟩))
    (λos started H enc _=>lifted os started H enc)

theorem proved:Rows.ReportNeverSavesLessThanNothingCardSaid :=
  Claim7.holds_tied_plain_at .later [] [.data, .data] true (true, "59ede5ad78a85a0a9e34ba68e37683c5c4831d03029a99758627828a551bd4f4") false
    over (λ_ h=>by cases h) kwf (λ_ h=>by cases h) reportNeverSavesLessThanNothing_row_tie rfl ⟨rfl, rfl⟩ AwG rfl
    (λf fn hf hfn=>by
      obtain rfl:f=4:=(Option.some.inj (kfn.symm.trans hf)).symm;obtain rfl:fn=Tryz.f4:=(Option.some.inj (Tryz.func4.symm.trans hfn)).symm
      exact⟨klk, λj t ht=>by
        rw[Tryz.params4]at ht;have hm:t∈[22]:=by simpa using Array.mem_of_getElem? ht
        exact(show Tryz.prog.wantsStandIn t=false by simpa using List.all_eq_true.1 kst t hm)⟩)
    kgo
end Go.Proofs.YtmmchhpdaogopaaGreatDoor.lReportNeverSavesLessThanNothing
