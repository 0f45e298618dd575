/-
  DriverChoose: for every input the law returns true.
-/
import Derived.Test.YtcaoepecbgggcaaGreatDoorTie
import Derived.Test.YtcaoepecbgggcaaGreatDoorCards
import Derived.Test.YtcaoepecbgggcaaGreatDoorLa
import Derived.Test.YtcaoepecbgggcaaGreatDoorLc
import Derived.Test.YtcaoepecbgggcaaGreatDoorLd
namespace Go.Proofs.YtcaoepecbgggcaaGreatDoor.lDriverChoose
open Go Go.Dw Go.Proofs Go.Proofs.YtcaoepecbgggcaaGreatDoor Go.ChangeShapes Go.WideShapes Go.ChangeAt Go.RowKit
theorem over : Rows.DriverChooseSaid :=
  OpenClaim.holds_of_wide 3 Tryz.f3 rfl rfl rfl rfl rfl rfl rfl ⟨rfl, rfl, rfl, rfl, rfl⟩ rfl rfl rfl rfl rfl kfn Tryz.func3 kjf
    (of_decide_eq_true (by kernel_rfl)) (by unfold Func.isWrapper; first | (rw [if_pos (by decide +kernel)]; kernel_rfl) | (rw [if_neg (by decide +kernel)]; exact ⟨rfl, rfl⟩))
    (fun os started H enc _ => lifted os started H enc)

theorem proved : Rows.DriverChooseCardSaid :=
  Claim7.holds_tied_plain_at .later [] [.data, .data] true (true, "21fe10a0002c27421bda3110228641d4568c42862fae462e89c8c481f7ce6d93") false
    over (fun _ h => by cases h) kwf (fun _ h => by cases h) driverChoose_row_tie rfl ⟨rfl, rfl⟩ kmain rfl
    (fun f fn hf hfn => by
      obtain rfl : f = 3 := (Option.some.inj (kfn.symm.trans hf)).symm
      obtain rfl : fn = Tryz.f3 := (Option.some.inj (Tryz.func3.symm.trans hfn)).symm
      exact ⟨klk, fun j t ht => by
        rw [Tryz.params3] at ht
        have hm : t ∈ [22, 23] := by simpa using Array.mem_of_getElem? ht
        exact (show Tryz.prog.wantsStandIn t = false by simpa using List.all_eq_true.1 kst t hm)⟩)
    kgo
end Go.Proofs.YtcaoepecbgggcaaGreatDoor.lDriverChoose
