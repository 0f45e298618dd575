/-
  LivenessSame: for every input the law returns true: its typed program does, and the code does what that program says.
-/
import Derived.Test.YtcelninhkmhjkaaDoorRows
import Derived.Test.YtcelninhkmhjkaaDoorDxF
import Derived.Test.YtcelninhkmhjkaaDoorDc
import Derived.Test.YtcelninhkmhjkaaDoorTie
import Derived.Test.YtcelninhkmhjkaaDoorCards
import Derived.LaidMore
import Derived.SevenTiedAt
import Derived.Test.YtcelninhkmhjkaaDoorPa
namespace Go.Proofs.YtcelninhkmhjkaaDoor.lLivenessSame
open Go Go.Dw Go.Proofs Go.Proofs.YtcelninhkmhjkaaDoor Go.ChangeShapes Go.WideShapes Go.ChangeAt Go.RowKit
theorem own : ownKnob Tryd.prog.godebug = none := by kernel_rfl
theorem rd3 (W : World) : Rd Tryd.prog W 3 LR (Od .i64) := Rd.int Tryd.underlying3
theorem c3 : Tryd.prog.cellsOf 3 = 1 := by kernel_rfl
theorem Afx (W : World) : Rd Tryd.prog W 36 (eL LR) (qL (Od .i64)) := Rd.slice Tryd.underlying36 (by rw [c3]; decide) (fun a => by rw [c3]; rfl) (rd3 W)
theorem c36 : Tryd.prog.cellsOf 36 = 1 := by kernel_rfl
theorem Afw (W : World) : Rd Tryd.prog W 28 (eL (eL LR)) (qL (qL (Od .i64))) := Rd.slice Tryd.underlying28 (by rw [c36]; decide) (fun a => by rw [c36]; rfl) (Afx W)
theorem c28 : Tryd.prog.cellsOf 28 = 1 := by kernel_rfl
theorem c30 : Tryd.prog.cellsOf 30 = 1 := by kernel_rfl
theorem Aff (W : World) : Rd Tryd.prog W 30 NU Za := Rd.KC Me.mk Tryd.underlying30 rfl (by rw [c30, c28]) (Afw W) (fun a => rfl) (fun a ha => ha)
theorem rd5 (W : World) : Rd Tryd.prog W 5 eU8 (Od .u8) := Rd.int Tryd.underlying5
theorem c5 : Tryd.prog.cellsOf 5 = 1 := by kernel_rfl
theorem Afv (W : World) : Rd Tryd.prog W 22 (eL eU8) (qL (Od .u8)) := Rd.slice Tryd.underlying22 (by rw [c5]; decide) (fun a => by rw [c5]; rfl) (rd5 W)

set_option maxRecDepth 100000 in
theorem Abo (H : Type) (enc : TypeId × Value → H) (W : World) (base : Nat) (args : Array Value) (ds gs : List (DataW H)) (before : List MemPlace) (hG : Xd Tryd.prog (Ru W))
    (hval : ∀ (j : Nat) t v, Tryd.f9.params[j]? = some t → args[j]? = some v → Value.okWide Tryd.prog W .any base t v)
    (hW : DataW.Whole enc Tryd.prog Tryd.f9.params.toList Rows.livenessSameSpec.vars false W args.toList ds gs before) :
    Calls Tryd.prog 9 args W fun e W' => ∃ v, e = .returned v ∧ Rows.livenessSameSpec.post enc Tryd.prog Tryd.f9 false true false false W args v W' := by
  have hW' := hW
  obtain ⟨p, q, hA0, hV, rfl, hfz, hnd⟩ := hW
  have hA : DataW.TrodAll enc Tryd.prog W 0 (fun _ => true) true Tryd.f9.params.toList args.toList ds p := hA0
  rw [Tryd.params9] at hA hval
  obtain ⟨v0, vs0, d0, ds0, p0, q0, hargs, rfl, rfl, h0, r0⟩ := trodAll_cons hA
  obtain ⟨v1, vs1, d1, ds1, p1, q1, rfl, rfl, rfl, h1, r1⟩ := trodAll_cons r0
  obtain ⟨v2, vs2, d2, ds2, p2, q2, rfl, rfl, rfl, h2, r2⟩ := trodAll_cons r1
  obtain ⟨rfl, rfl, rfl⟩ := trodAll_nil r2
  obtain rfl : args = #[v0, v1, v2] := by cases args; simp_all
  obtain ⟨a0, k0, f0⟩ := (Aff W).arg (fun _ _ => ⟨_, rfl⟩) (fun _ h => (h (by rw [Tryd.underlying30]; trivial)).elim) (hval 0 30 v0 rfl rfl) h0
  obtain ⟨a1, k1, f1⟩ := (Aff W).arg (fun _ _ => ⟨_, rfl⟩) (fun _ h => (h (by rw [Tryd.underlying30]; trivial)).elim) (hval 1 30 v1 rfl rfl) h1
  obtain ⟨a2, k2, f2⟩ := (Afv W).arg (fun _ h => by rw [Tryd.underlying22] at h; exact h.elim) (fun _ _ => rfl) (hval 2 22 v2 rfl rfl) h2
  exact ZT WC SN rfl hW' rfl (by kernel_rfl) (by kernel_rfl) (by kernel_rfl) (by kernel_rfl) (by kernel_rfl) Tryd.underlying4 (fun ds h => by
    rw [Tryd.params9] at h
    match ds, h with | [_, _, _], _ => rfl) rfl hG ⟨(a0, a1, a2), (.val 0 _ _ _ _ _ rfl (fun _ _ h => D.noConfusion h) f0 (.val 1 _ _ _ _ _ rfl (fun _ _ h => D.noConfusion h) f1 (.val 2 _ _ _ _ _ rfl (fun _ _ h => D.noConfusion h) f2 (.nil _)))), VY a0 a1 a2 k0 k1 k2⟩

theorem Acd (os : Os) (args : Array Value) : laidMetH Tryd.prog Rows.livenessSameRow.laid ((World.doorLaid Tryd.prog 400 os).forCall (fun _ _ => 0) ⟨#[], args, []⟩).memory :=
  laidMetH_of_parts3 (fuel := 8) (laidMet_of_run' 8 (by kernel_rfl) (by kernel_rfl)) (by kernel_rfl) (by kernel_rfl)
set_option maxRecDepth 100000 in
theorem lifted (os : Os) (started : os.Started) (H : Type) (enc : TypeId × Value → H) :
    ReturnsInHanded {} Tryd.checked os 9 .any (fun w args => (Rows.livenessSameSpec.pre enc Tryd.prog Tryd.f9 [] false w args ∧ laidMetH Tryd.prog Rows.livenessSameRow.laid w) ∧ sizedMet enc Tryd.prog Tryd.f9 (OpenSpec.ofChange Rows.livenessSameSpec) false w args)
      (Rows.livenessSameSpec.post enc Tryd.prog Tryd.f9 false true false false) := by
  refine returnsInHanded_of_change_and (C := Tryd.checked) (X := fun w _ => laidMetH Tryd.prog Rows.livenessSameRow.laid w) (fun _ _ _ hh h => h.of_heap hh) own started (by kernel_rfl) Tryd.func9
    (ChangeSpec.witness_shaped (enc := enc) (C := Tryd.checked) (os := os) (X := fun w _ => laidMetH Tryd.prog Rows.livenessSameRow.laid w) false (World.doorLaid Tryd.prog 400 os) #[.agg #[.slice none 0 0], .agg #[.slice none 0 0], .slice none 0 0] 8 rfl (World.shaped_of_RefB (by kernel_rfl) (by kernel_rfl)) (by kernel_rfl) (by kernel_rfl) (by kernel_rfl) (Acd os _)) ?_
  intro W base args ds gs before hval hW _ _ hL _
  exact Abo H enc W base args ds gs before (ZQ hL rfl (by kernel_rfl) (fun g hg => by
    obtain rfl : g = 0 := Option.some.inj (hg.symm.trans (show Tryd.prog.globalNamed "math/bits.deBruijn64tab" = some 0 by kernel_rfl))
    exact (show (Tryd.prog.globals[0]?).map (·.type) = some 130 by kernel_rfl)) Tryd.underlying130 Tryd.underlying5 (by kernel_rfl)) hval hW

theorem over : Rows.LivenessSameSaid :=
  OpenClaim.holds_of_wide 9 Tryd.f9 rfl rfl rfl rfl rfl rfl rfl ⟨rfl, rfl, rfl, rfl, rfl⟩ rfl rfl rfl rfl rfl (by kernel_rfl) Tryd.func9 (by kernel_rfl)
    (of_decide_eq_true (by kernel_rfl)) (by unfold Func.isWrapper; first | (rw [if_pos (by decide +kernel)]; kernel_rfl) | (rw [if_neg (by decide +kernel)]; exact ⟨rfl, rfl⟩))
    (fun os started H enc _ => lifted os started H enc)

theorem proved : Rows.LivenessSameCardSaid :=
  Claim7.holds_tied_plain_at .later [] [.data] true (true, "bd224d1ccfbdd92d58138e2d4572cbb21b91b263ea346cbf3c44bf9ddcf63908") false
    over (fun _ h => by cases h) (by kernel_rfl) (fun _ h => by cases h) livenessSame_row_tie rfl ⟨rfl, rfl⟩ (by kernel_rfl) rfl
    (fun f fn hf hfn => by
      obtain rfl : f = 9 := Option.some.inj ((show Tryd.prog.funcNamed "spillframe/spillframelaw16.LivenessSame" = some 9 by kernel_rfl).symm.trans hf) |>.symm
      obtain rfl : fn = Tryd.f9 := (Option.some.inj (Tryd.func9.symm.trans hfn)).symm
      exact ⟨by kernel_rfl, fun j t ht => by
        rw [Tryd.params9] at ht
        have hm : t ∈ [30, 30, 22] := by simpa using Array.mem_of_getElem? ht
        have hall : ([30, 30, 22].all fun u => !Tryd.prog.wantsStandIn u) = true := by kernel_rfl
        exact (show Tryd.prog.wantsStandIn t = false by simpa using List.all_eq_true.1 hall t hm)⟩)
    (by kernel_rfl)
end Go.Proofs.YtcelninhkmhjkaaDoor.lLivenessSame
