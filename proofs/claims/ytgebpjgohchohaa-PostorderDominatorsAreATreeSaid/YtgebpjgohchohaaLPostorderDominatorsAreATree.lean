/-
  PostorderDominatorsAreATree: for every input the law returns true: its typed program does, and the code does what that program says.
-/
import Derived.Test.YtgebpjgohchohaaRows
import Derived.Test.YtgebpjgohchohaaDxF
import Derived.Test.YtgebpjgohchohaaDc
import Derived.Test.YtgebpjgohchohaaPa
namespace Go.Proofs.Ytgebpjgohchohaa.lPostorderDominatorsAreATree
open Go Go.Dw Go.Proofs Go.Proofs.Ytgebpjgohchohaa Go.ChangeShapes Go.WideShapes Go.ChangeAt Go.RowKit
theorem own : ownKnob Try.prog.godebug = none := by kernel_rfl
theorem rd5 (W : World) : Rd Try.prog W 5 eU8 (Rg .u8) := Rd.int Try.underlying5
theorem c5 : Try.prog.cellsOf 5 = 1 := by kernel_rfl
theorem ZB (W : World) : Rd Try.prog W 22 (eL eU8) (qL (Rg .u8)) := Rd.slice Try.underlying22 (by rw [c5]; decide) (λa => by rw [c5]; rfl) (rd5 W)

set_option maxRecDepth 100000 in
theorem Ym (H : Type) (enc : TypeId × Value -> H) (W : World) (base : Nat) (args : Array Value) (ds gs : List (DataW H)) (before : List MemPlace)
    (hval : ∀ (j : Nat) t v, Try.f7.params[j]? = some t -> args[j]? = some v -> Value.okWide Try.prog W .any base t v)
    (hW : DataW.Whole enc Try.prog Try.f7.params.toList Rows.postorderDominatorsAreATreeSpec.vars false W args.toList ds gs before) :
    Calls Try.prog 7 args W λe W' => ∃ v, e = .returned v /\ Rows.postorderDominatorsAreATreeSpec.post enc Try.prog Try.f7 false true false false W args v W' := by
  have hW' := hW
  obtain ⟨p, q, hA0, hV, rfl, hfz, hnd⟩ := hW
  have hA : DataW.TrodAll enc Try.prog W 0 (λ_ => true) true Try.f7.params.toList args.toList ds p := hA0
  rw [Try.params7] at hA hval
  obtain ⟨v0, vs0, d0, ds0, p0, q0, hargs, rfl, rfl, h0, r0⟩ := trodAll_cons hA
  obtain ⟨rfl, rfl, rfl⟩ := trodAll_nil r0
  obtain rfl : args = #[v0] := by cases args; simp_all
  obtain ⟨a0, k0, f0⟩ := (ZB W).arg (λ_ h => by rw [Try.underlying22] at h; exact h.elim) (λ_ _ => rfl) (hval 0 22 v0 rfl rfl) h0
  exact Wb Sp QB rfl hW' rfl (by kernel_rfl) (by kernel_rfl) (by kernel_rfl) (by kernel_rfl) (by kernel_rfl) Try.underlying4 (λds h => by
    rw [Try.params7] at h
    match ds, h with | [_], _ => rfl) rfl (Ud.none (by kernel_rfl)) ⟨a0, (.val 0 _ _ _ _ _ rfl (λ_ _ h => D.noConfusion h) f0 (.nil _)), Sg a0 k0⟩

set_option maxRecDepth 100000 in
theorem lifted (os : Os) (started : os.Started) (H : Type) (enc : TypeId × Value -> H) :
    ReturnsInHanded {} Try.checked os 7 .any (Rows.postorderDominatorsAreATreeSpec.pre6 enc Try.prog Try.f7 Rows.postorderDominatorsAreATreeRow.domain false) (Rows.postorderDominatorsAreATreeSpec.post enc Try.prog Try.f7 false true false false) := by
  refine returnsInHanded_of_change (C := Try.checked) own started (by kernel_rfl) Try.func7
    (ChangeSpec.witness6 (enc := enc) (C := Try.checked) false ⟨#[], #[.slice none 0 0], []⟩ 8 (by kernel_rfl) (by kernel_rfl) (by kernel_rfl) (by kernel_rfl)) ?_
  intro W base args ds gs before hval hW _ _
  exact Ym H enc W base args ds gs before hval hW

theorem over : Rows.postorderDominatorsAreATreeRow.holds Try.pinned (OpenSpec.ofChange Rows.postorderDominatorsAreATreeSpec) :=
  OpenClaim.holds_of_wide 7 Try.f7 rfl rfl rfl rfl rfl rfl rfl ⟨rfl, rfl, rfl, rfl, rfl⟩ rfl rfl rfl rfl rfl (by kernel_rfl) Try.func7 (by kernel_rfl)
    (of_decide_eq_true (by kernel_rfl)) (by unfold Func.isWrapper; first | (rw [if_pos (by decide +kernel)]; kernel_rfl) | (rw [if_neg (by decide +kernel)]; exact ⟨rfl, rfl⟩))
    (λos started H enc _ => lifted os started H enc)

theorem proved : Rows.PostorderDominatorsAreATreeSaid :=
  over
end Go.Proofs.Ytgebpjgohchohaa.lPostorderDominatorsAreATree
