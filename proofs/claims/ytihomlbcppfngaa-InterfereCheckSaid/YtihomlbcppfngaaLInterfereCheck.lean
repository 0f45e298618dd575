/-
  InterfereCheck: for every input the law returns true: its typed program does, and the code does what that program says.
-/
import Derived.Test.YtihomlbcppfngaaRows
import Derived.Test.YtihomlbcppfngaaDxF
import Derived.Test.YtihomlbcppfngaaDx5
import Derived.Test.YtihomlbcppfngaaPic
namespace Go.Proofs.Ytihomlbcppfngaa.lInterfereCheck
open Go Go.Dw Go.Proofs Go.Proofs.Ytihomlbcppfngaa Go.ChangeShapes Go.WideShapes Go.ChangeAt Go.RowKit
theorem own : ownKnob Try.prog.godebug = none := by kernel_rfl
theorem rd3 (W : World) : Rd Try.prog W 3 eI64 (qInt .i64) := Rd.int Try.underlying3
theorem c3 : Try.prog.cellsOf 3 = 1 := by kernel_rfl
theorem rd43 (W : World) : Rd Try.prog W 43 (eL eI64) (qL (qInt .i64)) := Rd.slice Try.underlying43 (by rw [c3]; decide) (fun a => by rw [c3]; rfl) (rd3 W)
theorem c43 : Try.prog.cellsOf 43 = 1 := by kernel_rfl
theorem rd28 (W : World) : Rd Try.prog W 28 (eL (eL eI64)) (qL (qL (qInt .i64))) := Rd.slice Try.underlying28 (by rw [c43]; decide) (fun a => by rw [c43]; rfl) (rd43 W)
theorem rd5 (W : World) : Rd Try.prog W 5 eU8 (qInt .u8) := Rd.int Try.underlying5
theorem c5 : Try.prog.cellsOf 5 = 1 := by kernel_rfl
theorem rd22 (W : World) : Rd Try.prog W 22 (eL eU8) (qL (qInt .u8)) := Rd.slice Try.underlying22 (by rw [c5]; decide) (fun a => by rw [c5]; rfl) (rd5 W)

theorem contract (H : Type) (enc : TypeId × Value → H) (W : World) (base : Nat) (args : Array Value) (ds gs : List (DataW H)) (before : List MemPlace)
    (hval : ∀ (j : Nat) t v, Try.f5.params[j]? = some t → args[j]? = some v → Value.okWide Try.prog W .any base t v)
    (hW : DataW.Whole enc Try.prog Try.f5.params.toList Rows.interfereCheckSpec.vars false W args.toList ds gs before) :
    Calls Try.prog 5 args W fun e W' => ∃ v, e = .returned v ∧ Rows.interfereCheckSpec.post enc Try.prog Try.f5 false true false false W args v W' := by
  have hW' := hW
  obtain ⟨p, q, hA0, hV, rfl, hfz, hnd⟩ := hW
  have hA : DataW.TrodAll enc Try.prog W 0 (fun _ => true) true Try.f5.params.toList args.toList ds p := hA0
  rw [Try.params5] at hA hval
  obtain ⟨v0, vs0, d0, ds0, p0, q0, hargs, rfl, rfl, h0, r0⟩ := trodAll_cons hA
  obtain ⟨v1, vs1, d1, ds1, p1, q1, rfl, rfl, rfl, h1, r1⟩ := trodAll_cons r0
  obtain ⟨v2, vs2, d2, ds2, p2, q2, rfl, rfl, rfl, h2, r2⟩ := trodAll_cons r1
  obtain ⟨rfl, rfl, rfl⟩ := trodAll_nil r2
  obtain rfl : args = #[v0, v1, v2] := by cases args; simp_all
  obtain ⟨a0, k0, f0⟩ := (rd28 W).arg (fun _ h => by rw [Try.underlying28] at h; exact h.elim) (fun _ _ => rfl) (hval 0 28 v0 rfl rfl) h0
  obtain ⟨a1, k1, f1⟩ := (rd3 W).arg (fun _ h => by rw [Try.underlying3] at h; exact h.elim) (fun _ _ => rfl) (hval 1 3 v1 rfl rfl) h1
  obtain ⟨a2, k2, f2⟩ := (rd22 W).arg (fun _ h => by rw [Try.underlying22] at h; exact h.elim) (fun _ _ => rfl) (hval 2 22 v2 rfl rfl) h2
  exact law_contract law18_InterfereCheck_ok law18_InterfereCheck_de rfl hW' rfl (by kernel_rfl) (by kernel_rfl) (by kernel_rfl) (by kernel_rfl) (by kernel_rfl) Try.underlying4 (fun ds h => by
    rw [Try.params5] at h
    match ds, h with | [_, _, _], _ => rfl) rfl ⟨(a0, a1, a2), (.val 0 _ _ _ _ _ rfl f0 (.val 1 _ _ _ _ _ rfl f1 (.val 2 _ _ _ _ _ rfl f2 (.nil _)))), law18_InterfereCheck_true a0 a1 a2 k0 k1 k2⟩

set_option maxRecDepth 100000 in
theorem lifted (os : Os) (started : os.Started) (H : Type) (enc : TypeId × Value → H) :
    ReturnsInHanded {} Try.checked os 5 .any (Rows.interfereCheckSpec.pre6 enc Try.prog Try.f5 Rows.interfereCheckRow.domain false) (Rows.interfereCheckSpec.post enc Try.prog Try.f5 false true false false) := by
  refine returnsInHanded_of_change (C := Try.checked) own started (by kernel_rfl) Try.func5
    (ChangeSpec.witness6 (enc := enc) (C := Try.checked) false ⟨#[], #[.slice none 0 0, .int .i64 0, .slice none 0 0], []⟩ 8 (by kernel_rfl) (by kernel_rfl) (by kernel_rfl) (by kernel_rfl)) ?_
  intro W base args ds gs before hval hW _ _
  exact contract H enc W base args ds gs before hval hW

theorem over : Rows.interfereCheckRow.holds Try.pinned (OpenSpec.ofChange Rows.interfereCheckSpec) :=
  OpenClaim.holds_of_wide 5 Try.f5 rfl rfl rfl rfl rfl rfl rfl ⟨rfl, rfl, rfl, rfl, rfl⟩ rfl rfl rfl rfl rfl (by kernel_rfl) Try.func5 (by kernel_rfl)
    (of_decide_eq_true (by kernel_rfl)) (by unfold Func.isWrapper; first | (rw [if_pos (by decide +kernel)]; kernel_rfl) | (rw [if_neg (by decide +kernel)]; exact ⟨rfl, rfl⟩))
    (fun os started H enc _ => lifted os started H enc)

theorem proved : Rows.InterfereCheckSaid :=
  over
end Go.Proofs.Ytihomlbcppfngaa.lInterfereCheck
