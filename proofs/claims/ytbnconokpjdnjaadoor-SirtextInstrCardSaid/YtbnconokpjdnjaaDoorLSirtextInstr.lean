/-
  SirtextInstr: for every input the law returns true: its typed program does, and the code does what that program says.
-/
import Derived.Test.YtbnconokpjdnjaaDoorRows
import Derived.Test.YtbnconokpjdnjaaDoorDxF
import Derived.Test.YtbnconokpjdnjaaDoorDd
import Derived.Test.YtbnconokpjdnjaaDoorTie
import Derived.Test.YtbnconokpjdnjaaDoorCards
import Derived.LaidMore
import Derived.SevenTiedAt
import Derived.Test.YtbnconokpjdnjaaDoorPa
namespace Go.Proofs.YtbnconokpjdnjaaDoor.lSirtextInstr
open Go Go.Dw Go.Proofs Go.Proofs.YtbnconokpjdnjaaDoor Go.ChangeShapes Go.WideShapes Go.ChangeAt Go.RowKit
theorem own : ownKnob Tryd.prog.godebug = none := by kernel_rfl
theorem rd3 (W : World) : Rd Tryd.prog W 3 TR (RL .i64) := Rd.int Tryd.underlying3
theorem UH (W : World) : Rd Tryd.prog W 22 UD (RL .u64) := Rd.int Tryd.underlying22
theorem c3 : Tryd.prog.cellsOf 3 = 1 := by kernel_rfl
theorem c22 : Tryd.prog.cellsOf 22 = 1 := by kernel_rfl
theorem c24 : Tryd.prog.cellsOf 24 = 5 := by kernel_rfl
theorem UI (W : World) : Rd Tryd.prog W 24 Rs TM := Rd.Ul Mk.mk Tryd.underlying24 rfl c3.symm (by rw [c3]) (by rw [c3]) (by rw [c3]) (by rw [c24, c3, c22]) (rd3 W) (rd3 W) (rd3 W) (rd3 W) (UH W) (λa b c d e => rfl) (λa b c d e ha hb hc hd he => ⟨ha, hb, hc, hd, he⟩)
theorem rd5 (W : World) : Rd Tryd.prog W 5 eU8 (RL .u8) := Rd.int Tryd.underlying5

set_option maxRecDepth 100000 in
theorem TP (H : Type) (enc : TypeId × Value -> H) (W : World) (base : Nat) (args : Array Value) (ds gs : List (DataW H)) (before : List MemPlace) (hG : Rx Tryd.prog (Rq W))
    (hval : ∀ (j : Nat) t v, Tryd.f3.params[j]? = some t -> args[j]? = some v -> Value.okWide Tryd.prog W .any base t v)
    (hW : DataW.Whole enc Tryd.prog Tryd.f3.params.toList Rows.sirtextInstrSpec.vars false W args.toList ds gs before) :
    Calls Tryd.prog 3 args W λe W' => ∃ v, e = .returned v /\ Rows.sirtextInstrSpec.post enc Tryd.prog Tryd.f3 false true false false W args v W' := by
  have hW' := hW
  obtain ⟨p, q, hA0, hV, rfl, hfz, hnd⟩ := hW
  have hA : DataW.TrodAll enc Tryd.prog W 0 (λ_ => true) true Tryd.f3.params.toList args.toList ds p := hA0
  rw [Tryd.params3] at hA hval
  obtain ⟨v0, vs0, d0, ds0, p0, q0, hargs, rfl, rfl, h0, r0⟩ := trodAll_cons hA
  obtain ⟨v1, vs1, d1, ds1, p1, q1, rfl, rfl, rfl, h1, r1⟩ := trodAll_cons r0
  obtain ⟨rfl, rfl, rfl⟩ := trodAll_nil r1
  obtain rfl : args = #[v0, v1] := by cases args; simp_all
  obtain ⟨a0, k0, f0⟩ := (UI W).arg (λ_ _ => ⟨_, rfl⟩) (λ_ h => (h (by rw [Tryd.underlying24]; trivial)).elim) (hval 0 24 v0 rfl rfl) h0
  obtain ⟨a1, k1, f1⟩ := (rd5 W).arg (λ_ h => by rw [Tryd.underlying5] at h; exact h.elim) (λ_ _ => rfl) (hval 1 5 v1 rfl rfl) h1
  exact Ta RY RB rfl hW' rfl (by kernel_rfl) (by kernel_rfl) (by kernel_rfl) (by kernel_rfl) (by kernel_rfl) Tryd.underlying4 (λds h => by
    rw [Tryd.params3] at h
    match ds, h with | [_, _], _ => rfl) rfl hG ⟨(a0, a1), (.val 0 _ _ _ _ _ rfl (λ_ _ h => D.noConfusion h) f0 (.val 1 _ _ _ _ _ rfl (λ_ _ h => D.noConfusion h) f1 (.nil _))), RV a0 a1 k0 k1⟩

theorem TQ (os : Os) (args : Array Value) : laidMetH Tryd.prog Rows.sirtextInstrRow.laid ((World.doorLaid Tryd.prog 400 os).forCall (λ_ _ => 0) ⟨#[], args, []⟩).memory :=
  laidMetH_of_parts3 (fuel := 8) (laidMet_of_run' 8 (by kernel_rfl) (by kernel_rfl)) (by kernel_rfl) (by kernel_rfl)
set_option maxRecDepth 100000 in
theorem lifted (os : Os) (started : os.Started) (H : Type) (enc : TypeId × Value -> H) :
    ReturnsInHanded {} Tryd.checked os 3 .any (λw args => (Rows.sirtextInstrSpec.pre enc Tryd.prog Tryd.f3 [] false w args /\ laidMetH Tryd.prog Rows.sirtextInstrRow.laid w) /\ sizedMet enc Tryd.prog Tryd.f3 (OpenSpec.ofChange Rows.sirtextInstrSpec) false w args)
      (Rows.sirtextInstrSpec.post enc Tryd.prog Tryd.f3 false true false false) := by
  refine returnsInHanded_of_change_and (C := Tryd.checked) (X := λw _ => laidMetH Tryd.prog Rows.sirtextInstrRow.laid w) (λ_ _ _ hh h => h.of_heap hh) own started (by kernel_rfl) Tryd.func3
    (ChangeSpec.witness_shaped (enc := enc) (C := Tryd.checked) (os := os) (X := λw _ => laidMetH Tryd.prog Rows.sirtextInstrRow.laid w) false (World.doorLaid Tryd.prog 400 os) #[.agg #[.int .i64 0, .int .i64 0, .int .i64 0, .int .i64 0, .int .u64 0], .int .u8 0] 8 rfl (World.shaped_of_RefB (by kernel_rfl) (by kernel_rfl)) (by kernel_rfl) (by kernel_rfl) (by kernel_rfl) (TQ os _)) ?_
  intro W base args ds gs before hval hW _ _ hL _
  exact TP H enc W base args ds gs before (TH (i0 := 1) (g0 := 6) (i1 := 2) (g1 := 2) (i2 := 3) (g2 := 0) (i3 := 4) (g3 := 1) hL (by kernel_rfl) rfl rfl rfl rfl ⟨by kernel_rfl, by kernel_rfl, Tryd.underlying159, Tryd.underlying5, by kernel_rfl⟩ ⟨by kernel_rfl, by kernel_rfl, Tryd.underlying136, Tryd.underlying22, by kernel_rfl⟩ ⟨by kernel_rfl, by kernel_rfl, Tryd.underlying53, Tryd.underlying9, by kernel_rfl⟩ ⟨by kernel_rfl, by kernel_rfl, Tryd.underlying53, Tryd.underlying9, by kernel_rfl⟩) hval hW

theorem over : Rows.SirtextInstrSaid :=
  OpenClaim.holds_of_wide 3 Tryd.f3 rfl rfl rfl rfl rfl rfl rfl ⟨rfl, rfl, rfl, rfl, rfl⟩ rfl rfl rfl rfl rfl (by kernel_rfl) Tryd.func3 (by kernel_rfl)
    (of_decide_eq_true (by kernel_rfl)) (by unfold Func.isWrapper; first | (rw [if_pos (by decide +kernel)]; kernel_rfl) | (rw [if_neg (by decide +kernel)]; exact ⟨rfl, rfl⟩))
    (λos started H enc _ => lifted os started H enc)

theorem proved : Rows.SirtextInstrCardSaid :=
  Claim7.holds_tied_plain_at .later [] [.data, .data, .data, .data, .data] true (true, "496fd513cc92e4f2619c54e7a0f968b0fcd35b1bcb67b4aae29dcd44eacbd0db") true
    over (λ_ h => by cases h) (by kernel_rfl) (λ_ h => by cases h) sirtextInstr_row_tie rfl ⟨rfl, rfl⟩ (by kernel_rfl) rfl
    (λf fn hf hfn => by
      obtain rfl : f = 3 := Option.some.inj ((show Tryd.prog.funcNamed "spillframe/spillframelaw07.SirtextInstr" = some 3 by kernel_rfl).symm.trans hf) |>.symm
      obtain rfl : fn = Tryd.f3 := (Option.some.inj (Tryd.func3.symm.trans hfn)).symm
      exact ⟨by kernel_rfl, λj t ht => by
        rw [Tryd.params3] at ht
        have hm : t ∈ [24, 5] := by simpa using Array.mem_of_getElem? ht
        have hall : ([24, 5].all λu => !Tryd.prog.wantsStandIn u) = true := by kernel_rfl
        exact (show Tryd.prog.wantsStandIn t = false by simpa using List.all_eq_true.1 hall t hm)⟩)
    (by kernel_rfl)
end Go.Proofs.YtbnconokpjdnjaaDoor.lSirtextInstr
