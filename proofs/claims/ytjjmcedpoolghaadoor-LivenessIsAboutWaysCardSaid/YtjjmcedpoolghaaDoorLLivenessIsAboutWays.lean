/-
  LivenessIsAboutWays: for every input the law returns true: its typed program does, and the code does what that program says.
-/
import Derived.Test.YtjjmcedpoolghaaDoorRows
import Derived.Test.YtjjmcedpoolghaaDoorDxF
import Derived.Test.YtjjmcedpoolghaaDoorDc
import Derived.Test.YtjjmcedpoolghaaDoorTie
import Derived.Test.YtjjmcedpoolghaaDoorCards
import Derived.LaidMore
import Derived.SevenTiedAt
import Derived.Test.YtjjmcedpoolghaaDoorPa
namespace Go.Proofs.YtjjmcedpoolghaaDoor.lLivenessIsAboutWays
open Go Go.Dw Go.Proofs Go.Proofs.YtjjmcedpoolghaaDoor Go.ChangeShapes Go.WideShapes Go.ChangeAt Go.RowKit
theorem own : ownKnob Tryd.prog.godebug = none := by kernel_rfl
theorem rd5 (W : World) : Rd Tryd.prog W 5 eU8 (MP .u8) := Rd.int Tryd.underlying5
theorem c5 : Tryd.prog.cellsOf 5 = 1 := by kernel_rfl
theorem AdW (W : World) : Rd Tryd.prog W 22 (eL eU8) (qL (MP .u8)) := Rd.slice Tryd.underlying22 (by rw [c5]; decide) (fun a => by rw [c5]; rfl) (rd5 W)

set_option maxRecDepth 100000 in
theorem ZL (H : Type) (enc : TypeId × Value → H) (W : World) (base : Nat) (args : Array Value) (ds gs : List (DataW H)) (before : List MemPlace) (hG : Vh Tryd.prog (Qp W))
    (hval : ∀ (j : Nat) t v, Tryd.f3.params[j]? = some t → args[j]? = some v → Value.okWide Tryd.prog W .any base t v)
    (hW : DataW.Whole enc Tryd.prog Tryd.f3.params.toList Rows.livenessIsAboutWaysSpec.vars false W args.toList ds gs before) :
    Calls Tryd.prog 3 args W fun e W' => ∃ v, e = .returned v ∧ Rows.livenessIsAboutWaysSpec.post enc Tryd.prog Tryd.f3 false true false false W args v W' := by
  have hW' := hW
  obtain ⟨p, q, hA0, hV, rfl, hfz, hnd⟩ := hW
  have hA : DataW.TrodAll enc Tryd.prog W 0 (fun _ => true) true Tryd.f3.params.toList args.toList ds p := hA0
  rw [Tryd.params3] at hA hval
  obtain ⟨v0, vs0, d0, ds0, p0, q0, hargs, rfl, rfl, h0, r0⟩ := trodAll_cons hA
  obtain ⟨rfl, rfl, rfl⟩ := trodAll_nil r0
  obtain rfl : args = #[v0] := by cases args; simp_all
  obtain ⟨a0, k0, f0⟩ := (AdW W).arg (fun _ h => by rw [Tryd.underlying22] at h; exact h.elim) (fun _ _ => rfl) (hval 0 22 v0 rfl rfl) h0
  exact Yn RU Ot rfl hW' rfl (by kernel_rfl) (by kernel_rfl) (by kernel_rfl) (by kernel_rfl) (by kernel_rfl) Tryd.underlying4 (fun ds h => by
    rw [Tryd.params3] at h
    match ds, h with | [_], _ => rfl) rfl hG ⟨a0, (.val 0 _ _ _ _ _ rfl (fun _ _ h => D.noConfusion h) f0 (.nil _)), Rs a0 k0⟩

theorem AaC (os : Os) (args : Array Value) : laidMetH Tryd.prog Rows.livenessIsAboutWaysRow.laid ((World.doorLaid Tryd.prog 400 os).forCall (fun _ _ => 0) ⟨#[], args, []⟩).memory :=
  laidMetH_of_parts3 (fuel := 8) (laidMet_of_run' 8 (by kernel_rfl) (by kernel_rfl)) (by kernel_rfl) (by kernel_rfl)
set_option maxRecDepth 100000 in
theorem lifted (os : Os) (started : os.Started) (H : Type) (enc : TypeId × Value → H) :
    ReturnsInHanded {} Tryd.checked os 3 .any (fun w args => (Rows.livenessIsAboutWaysSpec.pre enc Tryd.prog Tryd.f3 [] false w args ∧ laidMetH Tryd.prog Rows.livenessIsAboutWaysRow.laid w) ∧ sizedMet enc Tryd.prog Tryd.f3 (OpenSpec.ofChange Rows.livenessIsAboutWaysSpec) false w args)
      (Rows.livenessIsAboutWaysSpec.post enc Tryd.prog Tryd.f3 false true false false) := by
  refine returnsInHanded_of_change_and (C := Tryd.checked) (X := fun w _ => laidMetH Tryd.prog Rows.livenessIsAboutWaysRow.laid w) (fun _ _ _ hh h => h.of_heap hh) own started (by kernel_rfl) Tryd.func3
    (ChangeSpec.witness_shaped (enc := enc) (C := Tryd.checked) (os := os) (X := fun w _ => laidMetH Tryd.prog Rows.livenessIsAboutWaysRow.laid w) false (World.doorLaid Tryd.prog 400 os) #[.slice none 0 0] 8 rfl (World.shaped_of_RefB (by kernel_rfl) (by kernel_rfl)) (by kernel_rfl) (by kernel_rfl) (by kernel_rfl) (AaC os _)) ?_
  intro W base args ds gs before hval hW _ _ hL _
  exact ZL H enc W base args ds gs before (Yk hL rfl (by kernel_rfl) (fun g hg => by
    obtain rfl : g = 0 := Option.some.inj (hg.symm.trans (show Tryd.prog.globalNamed "math/bits.deBruijn64tab" = some 0 by kernel_rfl))
    exact (show (Tryd.prog.globals[0]?).map (·.type) = some 104 by kernel_rfl)) Tryd.underlying104 Tryd.underlying5 (by kernel_rfl)) hval hW

theorem over : Rows.LivenessIsAboutWaysSaid :=
  OpenClaim.holds_of_wide 3 Tryd.f3 rfl rfl rfl rfl rfl rfl rfl ⟨rfl, rfl, rfl, rfl, rfl⟩ rfl rfl rfl rfl rfl (by kernel_rfl) Tryd.func3 (by kernel_rfl)
    (of_decide_eq_true (by kernel_rfl)) (by unfold Func.isWrapper; first | (rw [if_pos (by decide +kernel)]; kernel_rfl) | (rw [if_neg (by decide +kernel)]; exact ⟨rfl, rfl⟩))
    (fun os started H enc _ => lifted os started H enc)

theorem proved : Rows.LivenessIsAboutWaysCardSaid :=
  Claim7.holds_tied_plain_at .later [] [.data] true (true, "f2b5552e310d0e9587a8090142916332574b1034b5c9b6862270b8a1810fc78d") false
    over (fun _ h => by cases h) (by kernel_rfl) (fun _ h => by cases h) livenessIsAboutWays_row_tie rfl ⟨rfl, rfl⟩ (by kernel_rfl) rfl
    (fun f fn hf hfn => by
      obtain rfl : f = 3 := Option.some.inj ((show Tryd.prog.funcNamed "spillframe/spillframelaw16.LivenessIsAboutWays" = some 3 by kernel_rfl).symm.trans hf) |>.symm
      obtain rfl : fn = Tryd.f3 := (Option.some.inj (Tryd.func3.symm.trans hfn)).symm
      exact ⟨by kernel_rfl, fun j t ht => by
        rw [Tryd.params3] at ht
        have hm : t ∈ [22] := by simpa using Array.mem_of_getElem? ht
        have hall : ([22].all fun u => !Tryd.prog.wantsStandIn u) = true := by kernel_rfl
        exact (show Tryd.prog.wantsStandIn t = false by simpa using List.all_eq_true.1 hall t hm)⟩)
    (by kernel_rfl)
end Go.Proofs.YtjjmcedpoolghaaDoor.lLivenessIsAboutWays
