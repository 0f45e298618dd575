/-
  LivenessSolvesTheEquations: for every input the law returns true: its typed program does, and the code does what that program says.
-/
import Derived.Test.YtcelninhkmhjkaaDoorRows
import Derived.Test.YtcelninhkmhjkaaDoorDxF
import Derived.Test.YtcelninhkmhjkaaDoorDc
import Derived.Test.YtcelninhkmhjkaaDoorTie
import Derived.Test.YtcelninhkmhjkaaDoorCards
import Derived.LaidMore
import Derived.SevenTiedAt
import Derived.Test.YtcelninhkmhjkaaDoorPa
namespace Go.Proofs.YtcelninhkmhjkaaDoor.lLivenessSolvesTheEquations
open Go Go.Dw Go.Proofs Go.Proofs.YtcelninhkmhjkaaDoor Go.ChangeShapes Go.WideShapes Go.ChangeAt Go.RowKit
theorem own : ownKnob Tryd.prog.godebug = none := by kernel_rfl
theorem rd5 (W : World) : Rd Tryd.prog W 5 eU8 (Oq .u8) := Rd.int Tryd.underlying5
theorem c5 : Tryd.prog.cellsOf 5 = 1 := by kernel_rfl
theorem AfI (W : World) : Rd Tryd.prog W 22 (eL eU8) (qL (Oq .u8)) := Rd.slice Tryd.underlying22 (by rw [c5]; decide) (fun a => by rw [c5]; rfl) (rd5 W)

set_option maxRecDepth 100000 in
theorem AbI (H : Type) (enc : TypeId × Value → H) (W : World) (base : Nat) (args : Array Value) (ds gs : List (DataW H)) (before : List MemPlace) (hG : Xe Tryd.prog (Rq W))
    (hval : ∀ (j : Nat) t v, Tryd.f7.params[j]? = some t → args[j]? = some v → Value.okWide Tryd.prog W .any base t v)
    (hW : DataW.Whole enc Tryd.prog Tryd.f7.params.toList Rows.livenessSolvesTheEquationsSpec.vars false W args.toList ds gs before) :
    Calls Tryd.prog 7 args W fun e W' => ∃ v, e = .returned v ∧ Rows.livenessSolvesTheEquationsSpec.post enc Tryd.prog Tryd.f7 false true false false W args v W' := by
  have hW' := hW
  obtain ⟨p, q, hA0, hV, rfl, hfz, hnd⟩ := hW
  have hA : DataW.TrodAll enc Tryd.prog W 0 (fun _ => true) true Tryd.f7.params.toList args.toList ds p := hA0
  rw [Tryd.params7] at hA hval
  obtain ⟨v0, vs0, d0, ds0, p0, q0, hargs, rfl, rfl, h0, r0⟩ := trodAll_cons hA
  obtain ⟨rfl, rfl, rfl⟩ := trodAll_nil r0
  obtain rfl : args = #[v0] := by cases args; simp_all
  obtain ⟨a0, k0, f0⟩ := (AfI W).arg (fun _ h => by rw [Tryd.underlying22] at h; exact h.elim) (fun _ _ => rfl) (hval 0 22 v0 rfl rfl) h0
  exact Aaf RD Oz rfl hW' rfl (by kernel_rfl) (by kernel_rfl) (by kernel_rfl) (by kernel_rfl) (by kernel_rfl) Tryd.underlying4 (fun ds h => by
    rw [Tryd.params7] at h
    match ds, h with | [_], _ => rfl) rfl hG ⟨a0, (.val 0 _ _ _ _ _ rfl (fun _ _ h => D.noConfusion h) f0 (.nil _)), Ra a0 k0⟩

theorem Acx (os : Os) (args : Array Value) : laidMetH Tryd.prog Rows.livenessSolvesTheEquationsRow.laid ((World.doorLaid Tryd.prog 400 os).forCall (fun _ _ => 0) ⟨#[], args, []⟩).memory :=
  laidMetH_of_parts3 (fuel := 8) (laidMet_of_run' 8 (by kernel_rfl) (by kernel_rfl)) (by kernel_rfl) (by kernel_rfl)
set_option maxRecDepth 100000 in
theorem lifted (os : Os) (started : os.Started) (H : Type) (enc : TypeId × Value → H) :
    ReturnsInHanded {} Tryd.checked os 7 .any (fun w args => (Rows.livenessSolvesTheEquationsSpec.pre enc Tryd.prog Tryd.f7 [] false w args ∧ laidMetH Tryd.prog Rows.livenessSolvesTheEquationsRow.laid w) ∧ sizedMet enc Tryd.prog Tryd.f7 (OpenSpec.ofChange Rows.livenessSolvesTheEquationsSpec) false w args)
      (Rows.livenessSolvesTheEquationsSpec.post enc Tryd.prog Tryd.f7 false true false false) := by
  refine returnsInHanded_of_change_and (C := Tryd.checked) (X := fun w _ => laidMetH Tryd.prog Rows.livenessSolvesTheEquationsRow.laid w) (fun _ _ _ hh h => h.of_heap hh) own started (by kernel_rfl) Tryd.func7
    (ChangeSpec.witness_shaped (enc := enc) (C := Tryd.checked) (os := os) (X := fun w _ => laidMetH Tryd.prog Rows.livenessSolvesTheEquationsRow.laid w) false (World.doorLaid Tryd.prog 400 os) #[.slice none 0 0] 8 rfl (World.shaped_of_RefB (by kernel_rfl) (by kernel_rfl)) (by kernel_rfl) (by kernel_rfl) (by kernel_rfl) (Acx os _)) ?_
  intro W base args ds gs before hval hW _ _ hL _
  exact AbI H enc W base args ds gs before (Aaa hL rfl (by kernel_rfl) (fun g hg => by
    obtain rfl : g = 0 := Option.some.inj (hg.symm.trans (show Tryd.prog.globalNamed "math/bits.deBruijn64tab" = some 0 by kernel_rfl))
    exact (show (Tryd.prog.globals[0]?).map (·.type) = some 130 by kernel_rfl)) Tryd.underlying130 Tryd.underlying5 (by kernel_rfl)) hval hW

theorem over : Rows.LivenessSolvesTheEquationsSaid :=
  OpenClaim.holds_of_wide 7 Tryd.f7 rfl rfl rfl rfl rfl rfl rfl ⟨rfl, rfl, rfl, rfl, rfl⟩ rfl rfl rfl rfl rfl (by kernel_rfl) Tryd.func7 (by kernel_rfl)
    (of_decide_eq_true (by kernel_rfl)) (by unfold Func.isWrapper; first | (rw [if_pos (by decide +kernel)]; kernel_rfl) | (rw [if_neg (by decide +kernel)]; exact ⟨rfl, rfl⟩))
    (fun os started H enc _ => lifted os started H enc)

theorem proved : Rows.LivenessSolvesTheEquationsCardSaid :=
  Claim7.holds_tied_plain_at .later [] [.data] true (true, "bd224d1ccfbdd92d58138e2d4572cbb21b91b263ea346cbf3c44bf9ddcf63908") false
    over (fun _ h => by cases h) (by kernel_rfl) (fun _ h => by cases h) livenessSolvesTheEquations_row_tie rfl ⟨rfl, rfl⟩ (by kernel_rfl) rfl
    (fun f fn hf hfn => by
      obtain rfl : f = 7 := Option.some.inj ((show Tryd.prog.funcNamed "spillframe/spillframelaw16.LivenessSolvesTheEquations" = some 7 by kernel_rfl).symm.trans hf) |>.symm
      obtain rfl : fn = Tryd.f7 := (Option.some.inj (Tryd.func7.symm.trans hfn)).symm
      exact ⟨by kernel_rfl, fun j t ht => by
        rw [Tryd.params7] at ht
        have hm : t ∈ [22] := by simpa using Array.mem_of_getElem? ht
        have hall : ([22].all fun u => !Tryd.prog.wantsStandIn u) = true := by kernel_rfl
        exact (show Tryd.prog.wantsStandIn t = false by simpa using List.all_eq_true.1 hall t hm)⟩)
    (by kernel_rfl)
end Go.Proofs.YtcelninhkmhjkaaDoor.lLivenessSolvesTheEquations
