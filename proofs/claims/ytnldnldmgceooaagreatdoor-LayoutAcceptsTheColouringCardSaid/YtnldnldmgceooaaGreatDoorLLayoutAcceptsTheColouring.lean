/-
  LayoutAcceptsTheColouring: for every input the law returns true: its typed program does, and the code does what that program says.
-/
import Derived.Test.YtnldnldmgceooaaGreatDoorRows
import Derived.Test.YtnldnldmgceooaaGreatDoorDxF
import Derived.Test.YtnldnldmgceooaaGreatDoorDd
import Derived.Test.YtnldnldmgceooaaGreatDoorTie
import Derived.Test.YtnldnldmgceooaaGreatDoorCards
import Derived.LaidMore
import Derived.SevenTiedAt
import Derived.Test.YtnldnldmgceooaaGreatDoorPb
namespace Go.Proofs.YtnldnldmgceooaaGreatDoor.lLayoutAcceptsTheColouring
open Go Go.Dw Go.Proofs Go.Proofs.YtnldnldmgceooaaGreatDoor Go.ChangeShapes Go.WideShapes Go.ChangeAt Go.RowKit
theorem own : ownKnob Tryz.prog.godebug = none := by kernel_rfl
theorem rd5 (W : World) : Rd Tryz.prog W 5 eU8 (QY .u8) := Rd.int Tryz.underlying5
theorem c5 : Tryz.prog.cellsOf 5 = 1 := by kernel_rfl
theorem Aqn (W : World) : Rd Tryz.prog W 22 (eL eU8) (qL (QY .u8)) := Rd.slice Tryz.underlying22 (by rw [c5]; decide) (fun a => by rw [c5]; rfl) (rd5 W)

set_option maxRecDepth 100000 in
theorem Aoy (H : Type) (enc : TypeId × Value → H) (W : World) (base : Nat) (args : Array Value) (ds gs : List (DataW H)) (before : List MemPlace) (hG : AeF Tryz.prog (Yb W))
    (hval : ∀ (j : Nat) t v, Tryz.f7.params[j]? = some t → args[j]? = some v → Value.okWide Tryz.prog W .any base t v)
    (hW : DataW.Whole enc Tryz.prog Tryz.f7.params.toList Rows.layoutAcceptsTheColouringSpec.vars false W args.toList ds gs before) :
    Calls Tryz.prog 7 args W fun e W' => ∃ v, e = .returned v ∧ Rows.layoutAcceptsTheColouringSpec.post enc Tryz.prog Tryz.f7 false true false false W args v W' := by
  have hW' := hW
  obtain ⟨p, q, hA0, hV, rfl, hfz, hnd⟩ := hW
  have hA : DataW.TrodAll enc Tryz.prog W 0 (fun _ => true) true Tryz.f7.params.toList args.toList ds p := hA0
  rw [Tryz.params7] at hA hval
  obtain ⟨v0, vs0, d0, ds0, p0, q0, hargs, rfl, rfl, h0, r0⟩ := trodAll_cons hA
  obtain ⟨rfl, rfl, rfl⟩ := trodAll_nil r0
  obtain rfl : args = #[v0] := by cases args; simp_all
  obtain ⟨a0, k0, f0⟩ := (Aqn W).arg (fun _ h => by rw [Tryz.underlying22] at h; exact h.elim) (fun _ _ => rfl) (hval 0 22 v0 rfl rfl) h0
  exact Als ZJ TZ rfl hW' rfl (by kernel_rfl) (by kernel_rfl) (by kernel_rfl) (by kernel_rfl) (by kernel_rfl) Tryz.underlying4 (fun ds h => by
    rw [Tryz.params7] at h
    match ds, h with | [_], _ => rfl) rfl hG ⟨a0, (.val 0 _ _ _ _ _ rfl (fun _ _ h => D.noConfusion h) f0 (.nil _)), Yr a0 k0⟩

theorem AoA (os : Os) (args : Array Value) : laidMetH Tryz.prog Rows.layoutAcceptsTheColouringRow.laid ((World.doorLaid Tryz.prog 400 os).forCall (fun _ _ => 0) ⟨#[], args, []⟩).memory :=
  laidMetH_of_parts3 (fuel := 8) (laidMet_of_run' 8 (by kernel_rfl) (by kernel_rfl)) (by kernel_rfl) (by kernel_rfl)
set_option maxRecDepth 100000 in
theorem lifted (os : Os) (started : os.Started) (H : Type) (enc : TypeId × Value → H) :
    ReturnsInHanded {} Tryz.checked os 7 .any (fun w args => (Rows.layoutAcceptsTheColouringSpec.pre enc Tryz.prog Tryz.f7 [] false w args ∧ laidMetH Tryz.prog Rows.layoutAcceptsTheColouringRow.laid w) ∧ sizedMet enc Tryz.prog Tryz.f7 (OpenSpec.ofChange Rows.layoutAcceptsTheColouringSpec) false w args)
      (Rows.layoutAcceptsTheColouringSpec.post enc Tryz.prog Tryz.f7 false true false false) := by
  refine returnsInHanded_of_change_and (C := Tryz.checked) (X := fun w _ => laidMetH Tryz.prog Rows.layoutAcceptsTheColouringRow.laid w) (fun _ _ _ hh h => h.of_heap hh) own started (by kernel_rfl) Tryz.func7
    (ChangeSpec.witness_shaped (enc := enc) (C := Tryz.checked) (os := os) (X := fun w _ => laidMetH Tryz.prog Rows.layoutAcceptsTheColouringRow.laid w) false (World.doorLaid Tryz.prog 400 os) #[.slice none 0 0] 8 rfl (World.shaped_of_RefB (by kernel_rfl) (by kernel_rfl)) (by kernel_rfl) (by kernel_rfl) (by kernel_rfl) (AoA os _)) ?_
  intro W base args ds gs before hval hW _ _ hL _
  exact Aoy H enc W base args ds gs before (Alp hL rfl (by kernel_rfl) (fun g hg => by
    obtain rfl : g = 0 := Option.some.inj (hg.symm.trans (show Tryz.prog.globalNamed "math/bits.deBruijn64tab" = some 0 by kernel_rfl))
    exact (show (Tryz.prog.globals[0]?).map (·.type) = some 166 by kernel_rfl)) Tryz.underlying166 Tryz.underlying5 (by kernel_rfl)) hval hW

theorem over : Rows.LayoutAcceptsTheColouringSaid :=
  OpenClaim.holds_of_wide 7 Tryz.f7 rfl rfl rfl rfl rfl rfl rfl ⟨rfl, rfl, rfl, rfl, rfl⟩ rfl rfl rfl rfl rfl (by kernel_rfl) Tryz.func7 (by kernel_rfl)
    (of_decide_eq_true (by kernel_rfl)) (by unfold Func.isWrapper; first | (rw [if_pos (by decide +kernel)]; kernel_rfl) | (rw [if_neg (by decide +kernel)]; exact ⟨rfl, rfl⟩))
    (fun os started H enc _ => lifted os started H enc)

theorem proved : Rows.LayoutAcceptsTheColouringCardSaid :=
  Claim7.holds_tied_plain_at .later [] [.data] true (true, "f15c018fac6c267fa1e61fed01fb95463b85bfe5ed0e4f0e6765edced0c75bbd") false
    over (fun _ h => by cases h) (by kernel_rfl) (fun _ h => by cases h) layoutAcceptsTheColouring_row_tie rfl ⟨rfl, rfl⟩ (by kernel_rfl) rfl
    (fun f fn hf hfn => by
      obtain rfl : f = 7 := Option.some.inj ((show Tryz.prog.funcNamed "spillframe/spillframelaw25.LayoutAcceptsTheColouring" = some 7 by kernel_rfl).symm.trans hf) |>.symm
      obtain rfl : fn = Tryz.f7 := (Option.some.inj (Tryz.func7.symm.trans hfn)).symm
      exact ⟨by kernel_rfl, fun j t ht => by
        rw [Tryz.params7] at ht
        have hm : t ∈ [22] := by simpa using Array.mem_of_getElem? ht
        have hall : ([22].all fun u => !Tryz.prog.wantsStandIn u) = true := by kernel_rfl
        exact (show Tryz.prog.wantsStandIn t = false by simpa using List.all_eq_true.1 hall t hm)⟩)
    (by kernel_rfl)
end Go.Proofs.YtnldnldmgceooaaGreatDoor.lLayoutAcceptsTheColouring
