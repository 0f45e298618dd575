/-
  Chapter 13's statements: what they begin with.
-/
import Derived.Test.YtlphpepmbcbmiaaPfn
namespace Go.Proofs.Ytlphpepmbcbmiaa
open Go Go.Dw Go.Proofs

attribute [local simp] chk_pos Bool.cond_eq_ite

theorem awake13 : law13_awake = some true := by
  unfold law13_awake
  have h := fnext_eq (f := TFunc.mk 0 ([]) ([(TInstr.mk 20 1 0 0 0), (TInstr.mk 23 0 0 0 0)] : List TInstr)) (k := 0) (x := ⟨20, 1, 0, 0, 0⟩) rfl (by omega)
  simp only [Int.natCast_zero] at h
  rw [h]
  simp [nextN]

theorem function13_hs (codes : List Int) (hc : qL (qInt .u8) codes) : Hs (law13_function codes) fun p => okC p.2 ∧ ∃ ps i, FuncOk ps i 16 p.1 := by
  unfold law13_function
  obtain ⟨c, e1, hcok⟩ := new_ok codes 250 hc (by omega) (by omega)
  rw [e1, Option.bind_some]
  refine (program_hs hcok (by omega) (by omega) (by omega) (by omega)).bind fun p hp => ?_
  obtain ⟨ps, hps, hz, hp1, hp2, hfl, hall⟩ := hp.2
  refine (nextp_hs hp.1 (by omega) (by omega)).bind fun k hk => ?_
  exact (Hs.ix hk.2.1 hk.2.2 fun f hf => hall _ f hf).bind fun f hf => .pure ⟨hk.1, _, _, hf⟩

end Go.Proofs.Ytlphpepmbcbmiaa
