/-
  FlowNext: for every input the law returns true: its typed program does, and the code does what that program says.
-/
import Derived.Test.YtlphpepmbcbmiaaRows
import Derived.Test.YtlphpepmbcbmiaaDxF
import Derived.Test.YtlphpepmbcbmiaaDx5
import Derived.Test.YtlphpepmbcbmiaaPfx
namespace Go.Proofs.Ytlphpepmbcbmiaa.lFlowNext
open Go Go.Dw Go.Proofs Go.Proofs.Ytlphpepmbcbmiaa Go.ChangeShapes Go.WideShapes Go.ChangeAt Go.RowKit
theorem own : ownKnob Try.prog.godebug = none := by kernel_rfl
theorem rd5 (W : World) : Rd Try.prog W 5 eU8 (qInt .u8) := Rd.int Try.underlying5
theorem c5 : Try.prog.cellsOf 5 = 1 := by kernel_rfl
theorem rd22 (W : World) : Rd Try.prog W 22 (eL eU8) (qL (qInt .u8)) := Rd.slice Try.underlying22 (by rw [c5]; decide) (fun a => by rw [c5]; rfl) (rd5 W)
theorem rd3 (W : World) : Rd Try.prog W 3 eI64 (qInt .i64) := Rd.int Try.underlying3

set_option maxRecDepth 100000 in
theorem contract (H : Type) (enc : TypeId × Value → H) (W : World) (base : Nat) (args : Array Value) (ds gs : List (DataW H)) (before : List MemPlace)
    (hval : ∀ (j : Nat) t v, Try.f3.params[j]? = some t → args[j]? = some v → Value.okWide Try.prog W .any base t v)
    (hW : DataW.Whole enc Try.prog Try.f3.params.toList Rows.flowNextSpec.vars false W args.toList ds gs before) :
    Calls Try.prog 3 args W fun e W' => ∃ v, e = .returned v ∧ Rows.flowNextSpec.post enc Try.prog Try.f3 false true false false W args v W' := by
  have hW' := hW
  obtain ⟨p, q, hA0, hV, rfl, hfz, hnd⟩ := hW
  have hA : DataW.TrodAll enc Try.prog W 0 (fun _ => true) true Try.f3.params.toList args.toList ds p := hA0
  rw [Try.params3] at hA hval
  obtain ⟨v0, vs0, d0, ds0, p0, q0, hargs, rfl, rfl, h0, r0⟩ := trodAll_cons hA
  obtain ⟨v1, vs1, d1, ds1, p1, q1, rfl, rfl, rfl, h1, r1⟩ := trodAll_cons r0
  obtain ⟨rfl, rfl, rfl⟩ := trodAll_nil r1
  obtain rfl : args = #[v0, v1] := by cases args; simp_all
  obtain ⟨a0, k0, f0⟩ := (rd22 W).arg (fun _ h => by rw [Try.underlying22] at h; exact h.elim) (fun _ _ => rfl) (hval 0 22 v0 rfl rfl) h0
  obtain ⟨a1, k1, f1⟩ := (rd3 W).arg (fun _ h => by rw [Try.underlying3] at h; exact h.elim) (fun _ _ => rfl) (hval 1 3 v1 rfl rfl) h1
  exact law_contract law13_FlowNext_ok law13_FlowNext_de rfl hW' rfl (by kernel_rfl) (by kernel_rfl) (by kernel_rfl) (by kernel_rfl) (by kernel_rfl) Try.underlying4 (fun ds h => by
    rw [Try.params3] at h
    match ds, h with | [_, _], _ => rfl) rfl ⟨(a0, a1), (.val 0 _ _ _ _ _ rfl (fun _ _ h => D.noConfusion h) f0 (.val 1 _ _ _ _ _ rfl (fun _ _ h => D.noConfusion h) f1 (.nil _))), law13_FlowNext_true a0 a1 k0 k1⟩

set_option maxRecDepth 100000 in
theorem lifted (os : Os) (started : os.Started) (H : Type) (enc : TypeId × Value → H) :
    ReturnsInHanded {} Try.checked os 3 .any (Rows.flowNextSpec.pre6 enc Try.prog Try.f3 Rows.flowNextRow.domain false) (Rows.flowNextSpec.post enc Try.prog Try.f3 false true false false) := by
  refine returnsInHanded_of_change (C := Try.checked) own started (by kernel_rfl) Try.func3
    (ChangeSpec.witness6 (enc := enc) (C := Try.checked) false ⟨#[], #[.slice none 0 0, .int .i64 0], []⟩ 8 (by kernel_rfl) (by kernel_rfl) (by kernel_rfl) (by kernel_rfl)) ?_
  intro W base args ds gs before hval hW _ _
  exact contract H enc W base args ds gs before hval hW

theorem over : Rows.flowNextRow.holds Try.pinned (OpenSpec.ofChange Rows.flowNextSpec) :=
  OpenClaim.holds_of_wide 3 Try.f3 rfl rfl rfl rfl rfl rfl rfl ⟨rfl, rfl, rfl, rfl, rfl⟩ rfl rfl rfl rfl rfl (by kernel_rfl) Try.func3 (by kernel_rfl)
    (of_decide_eq_true (by kernel_rfl)) (by unfold Func.isWrapper; first | (rw [if_pos (by decide +kernel)]; kernel_rfl) | (rw [if_neg (by decide +kernel)]; exact ⟨rfl, rfl⟩))
    (fun os started H enc _ => lifted os started H enc)

theorem proved : Rows.FlowNextSaid :=
  over
end Go.Proofs.Ytlphpepmbcbmiaa.lFlowNext
