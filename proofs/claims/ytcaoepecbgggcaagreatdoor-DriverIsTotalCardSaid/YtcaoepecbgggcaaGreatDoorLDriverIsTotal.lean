/-
  DriverIsTotal: for every input the law returns true.
-/
import Derived.Test.YtcaoepecbgggcaaGreatDoorCards
import Derived.Test.YtcaoepecbgggcaaGreatDoorLa
import Derived.Test.YtcaoepecbgggcaaGreatDoorLc
import Derived.Test.YtcaoepecbgggcaaGreatDoorLd
namespace Go.Proofs.YtcaoepecbgggcaaGreatDoor.lDriverIsTotal
open Go Go.Dw Go.Proofs Go.Proofs.YtcaoepecbgggcaaGreatDoor Go.ChangeShapes Go.WideShapes Go.ChangeAt Go.RowKit
theorem over:Rows.DriverIsTotalSaid :=
  OpenClaim.holds_of_wide 5 Tryz.f5 rfl rfl rfl rfl rfl rfl rfl ⟨rfl, rfl, rfl, rfl, rfl⟩ rfl rfl rfl rfl rfl kfn Tryz.func5 kjf
    (of_decide_eq_true (by kernel_rfl)) (by unfold Func.isWrapper;first|(rw[if_pos (by decide +kernel)];kernel_rfl)|(rw[if_neg (by decide +kernel)];exact⟨rfl, rfl⟩))
    (λos started H enc _=>lifted os started H enc)

theorem proved:Rows.DriverIsTotalCardSaid :=
  Claim7.holds_tied_plain_at .later [] [.data, .data] true (true, "21fe10a0002c27421bda3110228641d4568c42862fae462e89c8c481f7ce6d93") false
    over (λ_ h=>by cases h) kwf (λ_ h=>by cases h) driverIsTotal_row_tie rfl ⟨rfl, rfl⟩ Azd rfl
    (λf fn hf hfn=>by
      obtain rfl:f=5:=(Option.some.inj (kfn.symm.trans hf)).symm;obtain rfl:fn=Tryz.f5:=(Option.some.inj (Tryz.func5.symm.trans hfn)).symm
      exact⟨klk, λj t ht=>by
        rw[Tryz.params5]at ht;have hm:t∈[22]:=by simpa using Array.mem_of_getElem? ht
        exact(show Tryz.prog.wantsStandIn t=false by simpa using List.all_eq_true.1 kst t hm)⟩)
    kgo
end Go.Proofs.YtcaoepecbgggcaaGreatDoor.lDriverIsTotal
