/-
  LayoutCheck: for every input the law returns true: its typed program does, and the code does what that program says.
-/
import Derived.Test.YtnldnldmgceooaaGreatDoorRows
import Derived.Test.YtnldnldmgceooaaGreatDoorDxF
import Derived.Test.YtnldnldmgceooaaGreatDoorDd
import Derived.Test.YtnldnldmgceooaaGreatDoorTie
import Derived.Test.YtnldnldmgceooaaGreatDoorCards
import Derived.LaidMore
import Derived.SevenTiedAt
import Derived.Test.YtnldnldmgceooaaGreatDoorPb
namespace Go.Proofs.YtnldnldmgceooaaGreatDoor.lLayoutCheck
open Go Go.Dw Go.Proofs Go.Proofs.YtnldnldmgceooaaGreatDoor Go.ChangeShapes Go.WideShapes Go.ChangeAt Go.RowKit
theorem own : ownKnob Tryz.prog.godebug = none := by kernel_rfl
theorem rd5 (W : World) : Rd Tryz.prog W 5 eU8 (QY .u8) := Rd.int Tryz.underlying5
theorem c5 : Tryz.prog.cellsOf 5 = 1 := by kernel_rfl
theorem AqA (W : World) : Rd Tryz.prog W 22 (eL eU8) (qL (QY .u8)) := Rd.slice Tryz.underlying22 (by rw [c5]; decide) (fun a => by rw [c5]; rfl) (rd5 W)
theorem rd3 (W : World) : Rd Tryz.prog W 3 OZ (QY .i64) := Rd.int Tryz.underlying3
theorem c3 : Tryz.prog.cellsOf 3 = 1 := by kernel_rfl
theorem Aqk (W : World) : Rd Tryz.prog W 30 (eL OZ) (qL (QY .i64)) := Rd.slice Tryz.underlying30 (by rw [c3]; decide) (fun a => by rw [c3]; rfl) (rd3 W)
theorem c30 : Tryz.prog.cellsOf 30 = 1 := by kernel_rfl
theorem c32 : Tryz.prog.cellsOf 32 = 3 := by kernel_rfl
theorem AqD (W : World) : Rd Tryz.prog W 32 PR AgU := Rd.Ov Pc.mk Tryz.underlying32 rfl c3.symm (by rw [c3]) (by rw [c32, c3, c30]) (rd3 W) (rd3 W) (Aqk W) (fun a b c => rfl) (fun a b c ha hb hc => ⟨ha, hb, hc⟩)
theorem AqB (W : World) : Rd Tryz.prog W 27 (eL (eL OZ)) (qL (qL (QY .i64))) := Rd.slice Tryz.underlying27 (by rw [c30]; decide) (fun a => by rw [c30]; rfl) (Aqk W)
theorem c27 : Tryz.prog.cellsOf 27 = 1 := by kernel_rfl
theorem c29 : Tryz.prog.cellsOf 29 = 1 := by kernel_rfl
theorem AqC (W : World) : Rd Tryz.prog W 29 Qi AiO := Rd.Ot Pg.mk Tryz.underlying29 rfl (by rw [c29, c27]) (AqB W) (fun a => rfl) (fun a ha => ha)

set_option maxRecDepth 100000 in
theorem AoU (H : Type) (enc : TypeId × Value → H) (W : World) (base : Nat) (args : Array Value) (ds gs : List (DataW H)) (before : List MemPlace) (hG : AeF Tryz.prog (Yb W))
    (hval : ∀ (j : Nat) t v, Tryz.f6.params[j]? = some t → args[j]? = some v → Value.okWide Tryz.prog W .any base t v)
    (hW : DataW.Whole enc Tryz.prog Tryz.f6.params.toList Rows.layoutCheckSpec.vars false W args.toList ds gs before) :
    Calls Tryz.prog 6 args W fun e W' => ∃ v, e = .returned v ∧ Rows.layoutCheckSpec.post enc Tryz.prog Tryz.f6 false true false false W args v W' := by
  have hW' := hW
  obtain ⟨p, q, hA0, hV, rfl, hfz, hnd⟩ := hW
  have hA : DataW.TrodAll enc Tryz.prog W 0 (fun _ => true) true Tryz.f6.params.toList args.toList ds p := hA0
  rw [Tryz.params6] at hA hval
  obtain ⟨v0, vs0, d0, ds0, p0, q0, hargs, rfl, rfl, h0, r0⟩ := trodAll_cons hA
  obtain ⟨v1, vs1, d1, ds1, p1, q1, rfl, rfl, rfl, h1, r1⟩ := trodAll_cons r0
  obtain ⟨v2, vs2, d2, ds2, p2, q2, rfl, rfl, rfl, h2, r2⟩ := trodAll_cons r1
  obtain ⟨rfl, rfl, rfl⟩ := trodAll_nil r2
  obtain rfl : args = #[v0, v1, v2] := by cases args; simp_all
  obtain ⟨a0, k0, f0⟩ := (AqA W).arg (fun _ h => by rw [Tryz.underlying22] at h; exact h.elim) (fun _ _ => rfl) (hval 0 22 v0 rfl rfl) h0
  obtain ⟨a1, k1, f1⟩ := (AqD W).arg (fun _ _ => ⟨_, rfl⟩) (fun _ h => (h (by rw [Tryz.underlying32]; trivial)).elim) (hval 1 32 v1 rfl rfl) h1
  obtain ⟨a2, k2, f2⟩ := (AqC W).arg (fun _ _ => ⟨_, rfl⟩) (fun _ h => (h (by rw [Tryz.underlying29]; trivial)).elim) (hval 2 29 v2 rfl rfl) h2
  exact Als Afp Aba rfl hW' rfl (by kernel_rfl) (by kernel_rfl) (by kernel_rfl) (by kernel_rfl) (by kernel_rfl) Tryz.underlying4 (fun ds h => by
    rw [Tryz.params6] at h
    match ds, h with | [_, _, _], _ => rfl) rfl hG ⟨(a0, a1, a2), (.val 0 _ _ _ _ _ rfl (fun _ _ h => D.noConfusion h) f0 (.val 1 _ _ _ _ _ rfl (fun _ _ h => D.noConfusion h) f1 (.val 2 _ _ _ _ _ rfl (fun _ _ h => D.noConfusion h) f2 (.nil _)))), Aeh a0 a1 a2 k0 k1 k2⟩

theorem AoV (os : Os) (args : Array Value) : laidMetH Tryz.prog Rows.layoutCheckRow.laid ((World.doorLaid Tryz.prog 400 os).forCall (fun _ _ => 0) ⟨#[], args, []⟩).memory :=
  laidMetH_of_parts3 (fuel := 8) (laidMet_of_run' 8 (by kernel_rfl) (by kernel_rfl)) (by kernel_rfl) (by kernel_rfl)
set_option maxRecDepth 100000 in
theorem lifted (os : Os) (started : os.Started) (H : Type) (enc : TypeId × Value → H) :
    ReturnsInHanded {} Tryz.checked os 6 .any (fun w args => (Rows.layoutCheckSpec.pre enc Tryz.prog Tryz.f6 [] false w args ∧ laidMetH Tryz.prog Rows.layoutCheckRow.laid w) ∧ sizedMet enc Tryz.prog Tryz.f6 (OpenSpec.ofChange Rows.layoutCheckSpec) false w args)
      (Rows.layoutCheckSpec.post enc Tryz.prog Tryz.f6 false true false false) := by
  refine returnsInHanded_of_change_and (C := Tryz.checked) (X := fun w _ => laidMetH Tryz.prog Rows.layoutCheckRow.laid w) (fun _ _ _ hh h => h.of_heap hh) own started (by kernel_rfl) Tryz.func6
    (ChangeSpec.witness_shaped (enc := enc) (C := Tryz.checked) (os := os) (X := fun w _ => laidMetH Tryz.prog Rows.layoutCheckRow.laid w) false (World.doorLaid Tryz.prog 400 os) #[.slice none 0 0, .agg #[.int .i64 0, .int .i64 0, .slice none 0 0], .agg #[.slice none 0 0]] 8 rfl (World.shaped_of_RefB (by kernel_rfl) (by kernel_rfl)) (by kernel_rfl) (by kernel_rfl) (by kernel_rfl) (AoV os _)) ?_
  intro W base args ds gs before hval hW _ _ hL _
  exact AoU H enc W base args ds gs before (Alp hL rfl (by kernel_rfl) (fun g hg => by
    obtain rfl : g = 0 := Option.some.inj (hg.symm.trans (show Tryz.prog.globalNamed "math/bits.deBruijn64tab" = some 0 by kernel_rfl))
    exact (show (Tryz.prog.globals[0]?).map (·.type) = some 166 by kernel_rfl)) Tryz.underlying166 Tryz.underlying5 (by kernel_rfl)) hval hW

theorem over : Rows.LayoutCheckSaid :=
  OpenClaim.holds_of_wide 6 Tryz.f6 rfl rfl rfl rfl rfl rfl rfl ⟨rfl, rfl, rfl, rfl, rfl⟩ rfl rfl rfl rfl rfl (by kernel_rfl) Tryz.func6 (by kernel_rfl)
    (of_decide_eq_true (by kernel_rfl)) (by unfold Func.isWrapper; first | (rw [if_pos (by decide +kernel)]; kernel_rfl) | (rw [if_neg (by decide +kernel)]; exact ⟨rfl, rfl⟩))
    (fun os started H enc _ => lifted os started H enc)

theorem proved : Rows.LayoutCheckCardSaid :=
  Claim7.holds_tied_plain_at .later [] [.data] true (true, "f15c018fac6c267fa1e61fed01fb95463b85bfe5ed0e4f0e6765edced0c75bbd") false
    over (fun _ h => by cases h) (by kernel_rfl) (fun _ h => by cases h) layoutCheck_row_tie rfl ⟨rfl, rfl⟩ (by kernel_rfl) rfl
    (fun f fn hf hfn => by
      obtain rfl : f = 6 := Option.some.inj ((show Tryz.prog.funcNamed "spillframe/spillframelaw25.LayoutCheck" = some 6 by kernel_rfl).symm.trans hf) |>.symm
      obtain rfl : fn = Tryz.f6 := (Option.some.inj (Tryz.func6.symm.trans hfn)).symm
      exact ⟨by kernel_rfl, fun j t ht => by
        rw [Tryz.params6] at ht
        have hm : t ∈ [22, 32, 29] := by simpa using Array.mem_of_getElem? ht
        have hall : ([22, 32, 29].all fun u => !Tryz.prog.wantsStandIn u) = true := by kernel_rfl
        exact (show Tryz.prog.wantsStandIn t = false by simpa using List.all_eq_true.1 hall t hm)⟩)
    (by kernel_rfl)
end Go.Proofs.YtnldnldmgceooaaGreatDoor.lLayoutCheck
