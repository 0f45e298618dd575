/-
  InterfereGraph: for every input the law returns true: its typed program does, and the code does what that program says.
-/
import Derived.Test.YtcelninhkmhjkaaDoorRows
import Derived.Test.YtcelninhkmhjkaaDoorDxF
import Derived.Test.YtcelninhkmhjkaaDoorDc
import Derived.Test.YtcelninhkmhjkaaDoorTie
import Derived.Test.YtcelninhkmhjkaaDoorCards
import Derived.LaidMore
import Derived.SevenTiedAt
import Derived.Test.YtcelninhkmhjkaaDoorPa
namespace Go.Proofs.YtcelninhkmhjkaaDoor.lInterfereGraph
open Go Go.Dw Go.Proofs Go.Proofs.YtcelninhkmhjkaaDoor Go.ChangeShapes Go.WideShapes Go.ChangeAt Go.RowKit
theorem own : ownKnob Tryd.prog.godebug = none := by kernel_rfl
theorem rd5 (W : World) : Rd Tryd.prog W 5 eU8 (ME .u8) := Rd.int Tryd.underlying5
theorem c5 : Tryd.prog.cellsOf 5 = 1 := by kernel_rfl
theorem AjM (W : World) : Rd Tryd.prog W 22 (eL eU8) (qL (ME .u8)) := Rd.slice Tryd.underlying22 (by rw [c5]; decide) (fun a => by rw [c5]; rfl) (rd5 W)
theorem rd3 (W : World) : Rd Tryd.prog W 3 JJ (ME .i64) := Rd.int Tryd.underlying3
theorem c3 : Tryd.prog.cellsOf 3 = 1 := by kernel_rfl
theorem AjP (W : World) : Rd Tryd.prog W 36 (eL JJ) (qL (ME .i64)) := Rd.slice Tryd.underlying36 (by rw [c3]; decide) (fun a => by rw [c3]; rfl) (rd3 W)
theorem c36 : Tryd.prog.cellsOf 36 = 1 := by kernel_rfl
theorem AjN (W : World) : Rd Tryd.prog W 28 (eL (eL JJ)) (qL (qL (ME .i64))) := Rd.slice Tryd.underlying28 (by rw [c36]; decide) (fun a => by rw [c36]; rfl) (AjP W)
theorem c28 : Tryd.prog.cellsOf 28 = 1 := by kernel_rfl
theorem c30 : Tryd.prog.cellsOf 30 = 1 := by kernel_rfl
theorem AjO (W : World) : Rd Tryd.prog W 30 KJ AdX := Rd.Jb JR.mk Tryd.underlying30 rfl (by rw [c30, c28]) (AjN W) (fun a => rfl) (fun a ha => ha)

set_option maxRecDepth 100000 in
theorem AeH (H : Type) (enc : TypeId × Value → H) (W : World) (base : Nat) (args : Array Value) (ds gs : List (DataW H)) (before : List MemPlace) (hG : Zx Tryd.prog (Sx W))
    (hval : ∀ (j : Nat) t v, Tryd.f13.params[j]? = some t → args[j]? = some v → Value.okWide Tryd.prog W .any base t v)
    (hW : DataW.Whole enc Tryd.prog Tryd.f13.params.toList Rows.interfereGraphSpec.vars false W args.toList ds gs before) :
    Calls Tryd.prog 13 args W fun e W' => ∃ v, e = .returned v ∧ Rows.interfereGraphSpec.post enc Tryd.prog Tryd.f13 false true false false W args v W' := by
  have hW' := hW
  obtain ⟨p, q, hA0, hV, rfl, hfz, hnd⟩ := hW
  have hA : DataW.TrodAll enc Tryd.prog W 0 (fun _ => true) true Tryd.f13.params.toList args.toList ds p := hA0
  rw [Tryd.params13] at hA hval
  obtain ⟨v0, vs0, d0, ds0, p0, q0, hargs, rfl, rfl, h0, r0⟩ := trodAll_cons hA
  obtain ⟨v1, vs1, d1, ds1, p1, q1, rfl, rfl, rfl, h1, r1⟩ := trodAll_cons r0
  obtain ⟨rfl, rfl, rfl⟩ := trodAll_nil r1
  obtain rfl : args = #[v0, v1] := by cases args; simp_all
  obtain ⟨a0, k0, f0⟩ := (AjM W).arg (fun _ h => by rw [Tryd.underlying22] at h; exact h.elim) (fun _ _ => rfl) (hval 0 22 v0 rfl rfl) h0
  obtain ⟨a1, k1, f1⟩ := (AjO W).arg (fun _ _ => ⟨_, rfl⟩) (fun _ h => (h (by rw [Tryd.underlying30]; trivial)).elim) (hval 1 30 v1 rfl rfl) h1
  exact AcS Ys SR rfl hW' rfl (by kernel_rfl) (by kernel_rfl) (by kernel_rfl) (by kernel_rfl) (by kernel_rfl) Tryd.underlying4 (fun ds h => by
    rw [Tryd.params13] at h
    match ds, h with | [_, _], _ => rfl) rfl hG ⟨(a0, a1), (.val 0 _ _ _ _ _ rfl (fun _ _ h => D.noConfusion h) f0 (.val 1 _ _ _ _ _ rfl (fun _ _ h => D.noConfusion h) f1 (.nil _))), XC a0 a1 k0 k1⟩

theorem AfP (os : Os) (args : Array Value) : laidMetH Tryd.prog Rows.interfereGraphRow.laid ((World.doorLaid Tryd.prog 400 os).forCall (fun _ _ => 0) ⟨#[], args, []⟩).memory :=
  laidMetH_of_parts3 (fuel := 8) (laidMet_of_run' 8 (by kernel_rfl) (by kernel_rfl)) (by kernel_rfl) (by kernel_rfl)
set_option maxRecDepth 100000 in
theorem lifted (os : Os) (started : os.Started) (H : Type) (enc : TypeId × Value → H) :
    ReturnsInHanded {} Tryd.checked os 13 .any (fun w args => (Rows.interfereGraphSpec.pre enc Tryd.prog Tryd.f13 [] false w args ∧ laidMetH Tryd.prog Rows.interfereGraphRow.laid w) ∧ sizedMet enc Tryd.prog Tryd.f13 (OpenSpec.ofChange Rows.interfereGraphSpec) false w args)
      (Rows.interfereGraphSpec.post enc Tryd.prog Tryd.f13 false true false false) := by
  refine returnsInHanded_of_change_and (C := Tryd.checked) (X := fun w _ => laidMetH Tryd.prog Rows.interfereGraphRow.laid w) (fun _ _ _ hh h => h.of_heap hh) own started (by kernel_rfl) Tryd.func13
    (ChangeSpec.witness_shaped (enc := enc) (C := Tryd.checked) (os := os) (X := fun w _ => laidMetH Tryd.prog Rows.interfereGraphRow.laid w) false (World.doorLaid Tryd.prog 400 os) #[.slice none 0 0, .agg #[.slice none 0 0]] 8 rfl (World.shaped_of_RefB (by kernel_rfl) (by kernel_rfl)) (by kernel_rfl) (by kernel_rfl) (by kernel_rfl) (AfP os _)) ?_
  intro W base args ds gs before hval hW _ _ hL _
  exact AeH H enc W base args ds gs before (AcQ hL rfl (by kernel_rfl) (fun g hg => by
    obtain rfl : g = 0 := Option.some.inj (hg.symm.trans (show Tryd.prog.globalNamed "math/bits.deBruijn64tab" = some 0 by kernel_rfl))
    exact (show (Tryd.prog.globals[0]?).map (·.type) = some 130 by kernel_rfl)) Tryd.underlying130 Tryd.underlying5 (by kernel_rfl)) hval hW

theorem over : Rows.InterfereGraphSaid :=
  OpenClaim.holds_of_wide 13 Tryd.f13 rfl rfl rfl rfl rfl rfl rfl ⟨rfl, rfl, rfl, rfl, rfl⟩ rfl rfl rfl rfl rfl (by kernel_rfl) Tryd.func13 (by kernel_rfl)
    (of_decide_eq_true (by kernel_rfl)) (by unfold Func.isWrapper; first | (rw [if_pos (by decide +kernel)]; kernel_rfl) | (rw [if_neg (by decide +kernel)]; exact ⟨rfl, rfl⟩))
    (fun os started H enc _ => lifted os started H enc)

theorem proved : Rows.InterfereGraphCardSaid :=
  Claim7.holds_tied_plain_at .later [] [.data] true (true, "bd224d1ccfbdd92d58138e2d4572cbb21b91b263ea346cbf3c44bf9ddcf63908") false
    over (fun _ h => by cases h) (by kernel_rfl) (fun _ h => by cases h) interfereGraph_row_tie rfl ⟨rfl, rfl⟩ (by kernel_rfl) rfl
    (fun f fn hf hfn => by
      obtain rfl : f = 13 := Option.some.inj ((show Tryd.prog.funcNamed "spillframe/spillframelaw18.InterfereGraph" = some 13 by kernel_rfl).symm.trans hf) |>.symm
      obtain rfl : fn = Tryd.f13 := (Option.some.inj (Tryd.func13.symm.trans hfn)).symm
      exact ⟨by kernel_rfl, fun j t ht => by
        rw [Tryd.params13] at ht
        have hm : t ∈ [22, 30] := by simpa using Array.mem_of_getElem? ht
        have hall : ([22, 30].all fun u => !Tryd.prog.wantsStandIn u) = true := by kernel_rfl
        exact (show Tryd.prog.wantsStandIn t = false by simpa using List.all_eq_true.1 hall t hm)⟩)
    (by kernel_rfl)
end Go.Proofs.YtcelninhkmhjkaaDoor.lInterfereGraph
