/-
  SirtextFormat: for every input the law returns true: its typed program does, and the code does what that program says.
-/
import Derived.Test.YtbnconokpjdnjaaDoorRows
import Derived.Test.YtbnconokpjdnjaaDoorDxF
import Derived.Test.YtbnconokpjdnjaaDoorDd
import Derived.Test.YtbnconokpjdnjaaDoorTie
import Derived.Test.YtbnconokpjdnjaaDoorCards
import Derived.LaidMore
import Derived.SevenTiedAt
import Derived.Test.YtbnconokpjdnjaaDoorPa
namespace Go.Proofs.YtbnconokpjdnjaaDoor.lSirtextFormat
open Go Go.Dw Go.Proofs Go.Proofs.YtbnconokpjdnjaaDoor Go.ChangeShapes Go.WideShapes Go.ChangeAt Go.RowKit
theorem own : ownKnob Tryd.prog.godebug = none := by kernel_rfl
theorem rd5 (W : World) : Rd Tryd.prog W 5 eU8 (Sv .u8) := Rd.int Tryd.underlying5
theorem c5 : Tryd.prog.cellsOf 5 = 1 := by kernel_rfl
theorem AcE (W : World) : Rd Tryd.prog W 28 (eL eU8) (qL (Sv .u8)) := Rd.slice Tryd.underlying28 (by rw [c5]; decide) (λa => by rw [c5]; rfl) (rd5 W)

set_option maxRecDepth 100000 in
theorem Abd (H : Type) (enc : TypeId × Value -> H) (W : World) (base : Nat) (args : Array Value) (ds gs : List (DataW H)) (before : List MemPlace) (hG : UJ Tryd.prog (Uc W))
    (hval : ∀ (j : Nat) t v, Tryd.f4.params[j]? = some t -> args[j]? = some v -> Value.okWide Tryd.prog W .any base t v)
    (hW : DataW.Whole enc Tryd.prog Tryd.f4.params.toList Rows.sirtextFormatSpec.vars false W args.toList ds gs before) :
    Calls Tryd.prog 4 args W λe W' => ∃ v, e = .returned v /\ Rows.sirtextFormatSpec.post enc Tryd.prog Tryd.f4 false true false false W args v W' := by
  have hW' := hW
  obtain ⟨p, q, hA0, hV, rfl, hfz, hnd⟩ := hW
  have hA : DataW.TrodAll enc Tryd.prog W 0 (λ_ => true) true Tryd.f4.params.toList args.toList ds p := hA0
  rw [Tryd.params4] at hA hval
  obtain ⟨v0, vs0, d0, ds0, p0, q0, hargs, rfl, rfl, h0, r0⟩ := trodAll_cons hA
  obtain ⟨rfl, rfl, rfl⟩ := trodAll_nil r0
  obtain rfl : args = #[v0] := by cases args; simp_all
  obtain ⟨a0, k0, f0⟩ := (AcE W).arg (λ_ h => by rw [Tryd.underlying28] at h; exact h.elim) (λ_ _ => rfl) (hval 0 28 v0 rfl rfl) h0
  exact ZA We UM rfl hW' rfl (by kernel_rfl) (by kernel_rfl) (by kernel_rfl) (by kernel_rfl) (by kernel_rfl) Tryd.underlying4 (λds h => by
    rw [Tryd.params4] at h
    match ds, h with | [_], _ => rfl) rfl hG ⟨a0, (.val 0 _ _ _ _ _ rfl (λ_ _ h => D.noConfusion h) f0 (.nil _)), VO a0 k0⟩

theorem Abe (os : Os) (args : Array Value) : laidMetH Tryd.prog Rows.sirtextFormatRow.laid ((World.doorLaid Tryd.prog 400 os).forCall (λ_ _ => 0) ⟨#[], args, []⟩).memory :=
  laidMetH_of_parts3 (fuel := 8) (laidMet_of_run' 8 (by kernel_rfl) (by kernel_rfl)) (by kernel_rfl) (by kernel_rfl)
set_option maxRecDepth 100000 in
theorem lifted (os : Os) (started : os.Started) (H : Type) (enc : TypeId × Value -> H) :
    ReturnsInHanded {} Tryd.checked os 4 .any (λw args => (Rows.sirtextFormatSpec.pre enc Tryd.prog Tryd.f4 [] false w args /\ laidMetH Tryd.prog Rows.sirtextFormatRow.laid w) /\ sizedMet enc Tryd.prog Tryd.f4 (OpenSpec.ofChange Rows.sirtextFormatSpec) false w args)
      (Rows.sirtextFormatSpec.post enc Tryd.prog Tryd.f4 false true false false) := by
  refine returnsInHanded_of_change_and (C := Tryd.checked) (X := λw _ => laidMetH Tryd.prog Rows.sirtextFormatRow.laid w) (λ_ _ _ hh h => h.of_heap hh) own started (by kernel_rfl) Tryd.func4
    (ChangeSpec.witness_shaped (enc := enc) (C := Tryd.checked) (os := os) (X := λw _ => laidMetH Tryd.prog Rows.sirtextFormatRow.laid w) false (World.doorLaid Tryd.prog 400 os) #[.slice none 0 0] 8 rfl (World.shaped_of_RefB (by kernel_rfl) (by kernel_rfl)) (by kernel_rfl) (by kernel_rfl) (by kernel_rfl) (Abe os _)) ?_
  intro W base args ds gs before hval hW _ _ hL _
  exact Abd H enc W base args ds gs before (AaJ (i0 := 1) (g0 := 6) (i1 := 2) (g1 := 2) (i2 := 4) (g2 := 0) (i3 := 5) (g3 := 1) (i4 := 3) (g4 := 3) hL (by kernel_rfl) rfl rfl rfl rfl rfl ⟨by kernel_rfl, by kernel_rfl, Tryd.underlying159, Tryd.underlying5, by kernel_rfl⟩ ⟨by kernel_rfl, by kernel_rfl, Tryd.underlying136, Tryd.underlying22, by kernel_rfl⟩ ⟨by kernel_rfl, by kernel_rfl, Tryd.underlying53, Tryd.underlying9, by kernel_rfl⟩ ⟨by kernel_rfl, by kernel_rfl, Tryd.underlying53, Tryd.underlying9, by kernel_rfl⟩ ⟨by kernel_rfl, by kernel_rfl, Tryd.underlying147, Tryd.underlying146, by kernel_rfl, ⟨Tryd.underlying144, Tryd.underlying144, Tryd.underlying144, Tryd.underlying4, ⟨rfl, rfl, rfl, rfl⟩, ⟨by kernel_rfl, by kernel_rfl, by kernel_rfl, by kernel_rfl⟩⟩⟩) hval hW

theorem over : Rows.SirtextFormatSaid :=
  OpenClaim.holds_of_wide 4 Tryd.f4 rfl rfl rfl rfl rfl rfl rfl ⟨rfl, rfl, rfl, rfl, rfl⟩ rfl rfl rfl rfl rfl (by kernel_rfl) Tryd.func4 (by kernel_rfl)
    (of_decide_eq_true (by kernel_rfl)) (by unfold Func.isWrapper; first | (rw [if_pos (by decide +kernel)]; kernel_rfl) | (rw [if_neg (by decide +kernel)]; exact ⟨rfl, rfl⟩))
    (λos started H enc _ => lifted os started H enc)

theorem proved : Rows.SirtextFormatCardSaid :=
  Claim7.holds_tied_plain_at .later [] [.data, .data, .data, .data, .data, .data] true (true, "496fd513cc92e4f2619c54e7a0f968b0fcd35b1bcb67b4aae29dcd44eacbd0db") true
    over (λ_ h => by cases h) (by kernel_rfl) (λ_ h => by cases h) sirtextFormat_row_tie rfl ⟨rfl, rfl⟩ (by kernel_rfl) rfl
    (λf fn hf hfn => by
      obtain rfl : f = 4 := Option.some.inj ((show Tryd.prog.funcNamed "spillframe/spillframelaw07.SirtextFormat" = some 4 by kernel_rfl).symm.trans hf) |>.symm
      obtain rfl : fn = Tryd.f4 := (Option.some.inj (Tryd.func4.symm.trans hfn)).symm
      exact ⟨by kernel_rfl, λj t ht => by
        rw [Tryd.params4] at ht
        have hm : t ∈ [28] := by simpa using Array.mem_of_getElem? ht
        have hall : ([28].all λu => !Tryd.prog.wantsStandIn u) = true := by kernel_rfl
        exact (show Tryd.prog.wantsStandIn t = false by simpa using List.all_eq_true.1 hall t hm)⟩)
    (by kernel_rfl)
end Go.Proofs.YtbnconokpjdnjaaDoor.lSirtextFormat
